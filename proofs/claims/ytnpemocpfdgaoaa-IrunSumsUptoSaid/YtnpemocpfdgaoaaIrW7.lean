/- What runs: rows of frames, deferred calls, panics; told plainly, and as objects. -/
import Derived.Test.YtnpemocpfdgaoaaGenI
import Derived.Test.YtnpemocpfdgaoaaWlK8
set_option linter.unusedVariables false
set_option linter.unusedSimpArgs false
namespace Go.Proofs.Ytnpemocpfdgaoaa
open Go Go.Ab
structure a0S where
 f : Int
 args : List Int
def a0S.cells (x : a0S) : List AV := [.int .i64 x.f, .sl false 1 (List.map (avI .u64) x.args)]
def a0S.av (x : a0S) : AV := .agg x.cells
theorem a0S.enc : Enc a0S.av (some 2) := ⟨fun _ => rfl, fun _ => rfl, fun _ => rfl, fun x n => l8 ⟨rfl, ((a7C (m9 .u64) 1).blw x.args n), trivial⟩⟩
structure s4 where
 v : Int
 rcv : Bool
def s4.cells (x : s4) : List AV := [.int .u64 x.v, .bool x.rcv]
def s4.av (x : s4) : AV := .agg x.cells
theorem s4.enc : Enc s4.av (some 2) := ⟨fun _ => rfl, fun _ => rfl, fun _ => rfl, fun x n => l8 ⟨rfl, rfl, trivial⟩⟩
structure GP where
 Funcs : List b9
 bound : Bool
def GP.cells (p : GP) : List AV := [.sl false 8 (List.map b9.av p.Funcs), .bool p.bound, .int .u64 0, .int .u64 0, .int .u64 0, .int .u64 0, .int .u64 0, .int .u64 0, .int .u64 0, .int .u64 0, .int .u64 0, .int .u64 0, .int .u64 0, .int .u64 0, .int .u64 0, .int .u64 0, .int .u64 0, .int .u64 0]
structure SFr where
 f : b9
 lo : List Int
 ce : List Int
 pc : Int
 nu : Int
structure ARow where
 fr : SFr
 why : Int
 df : List a0S
 ret : Int
structure AS where
 tape : List Int
 evs : List k6
 ek : Int
 ev : Int
 steps : Int
 depth : Int
 defers : Int
 panics : Int
 rows : List ARow
 pans : List s4
 live : Int
structure FO where
 x : Nat
 l : Nat
 t : Nat
structure Row extends ARow where
 s : Nat
 d : Nat
 dv : Nat
 dj : List AV
 q : FO
abbrev frC (p : GP) (f : SFr) (q : FO) : List AV := [.cptr (GP.cells p) 0, .cptr (b9.av f.f).cells 0, .ref q.l 0 0 f.lo.length none, .ref q.t 0 0 f.ce.length none, .int .i64 f.pc, .int .i64 0, .int .u64 0, .int .u64 0, .int .u64 0, .int .u64 0, .int .u64 0, .int .u64 0, .int .u64 0, .int .u64 0, .int .u64 0, .int .u64 0, .int .u64 0, .int .u64 0, .int .i64 f.nu]
abbrev frL (p : GP) (f : SFr) (q : FO) : List It := [(q.x, 0, frC p f q), (q.l, 0, flat (avI .u64) f.lo), (q.t, 0, flat (avI .u64) f.ce)]
abbrev slL (z : Row) : List It := [(z.s, 0, [.iface 173 (.ptr z.q.x 0 0), .int .i64 z.why, .ref z.d z.dv 0 z.df.length (some 2), .int .u64 z.ret]), (z.d, z.dv, flat a0S.av z.df.reverse ++ z.dj)]
def a0c (p : GP) (z : Row) : List It := slL z ++ frL p z.fr z.q
def mkA (p : GP) : AV := .fn (.func 46) [.cptr (GP.cells p) 0] []
def x3 (rows : List Row) : List ARow := rows.map Row.toARow
end Go.Proofs.Ytnpemocpfdgaoaa

/- trace.In, trace.Out, core.M's Len: the walks. -/
namespace Go.Ab
section
variable {P : Program} {S0 : List Ob} {ow : List Nat} {fr : Fr} {S : List Ob} {log : List LE} {L L' : List It} {esh : Option Nat}
theorem v7 {d x i rs} {K : Fr → List Ob → List LE → Prop} {o ver off m k z} (e : ev (Fr.get fr) x = .ref o ver off m esh) (e1 : ev (Fr.get fr) i = .int k z) (n : Nat) (hz : z = (n : Int)) (hn : n < m)
  (h : VTops P ow rs ((d, .ptr o ver (off + n * f5 esh)) :: fr) S (.acc [] none :: log) K) : VTops P ow (⟨some d, none, .op (.iad none esh x i)⟩ :: rs) fr S log K := by
 subst hz
 have := b8e (P := P) (ow := ow) (fr := fr) (S := S) (log := log) (d := d) (rs := rs) (K := K) (n := (n : Int)) e e1 ⟨by omega, by omega⟩ (by simpa using h)
 exact this
theorem c3u {d bytes s x rs} {K : Fr → List Ob → List LE → Prop} {o ver n m : Nat} {cs j ys : List AV} {rdx : List Nat} (hS : Sep S L) (e : ev (Fr.get fr) s = .ref o ver 0 n esh) (e2 : a7V esh (ev (Fr.get fr) x) S = some (m, ys, rdx))
  (hr : Rp L (o, ver, cs ++ j) (o, ver + 1, cs ++ ys) L') (hl : cs.length = n * f5 esh) (h1 : ys.all AV.one = true) (hb : (n + m) * bytes ≤ 140737488355328 ∧ n + m ≤ 140737488355328)
  (h : ∀ S', Sep S' L' → VTops P ow rs ((d, .ref o (ver + 1) 0 (n + m) esh) :: fr) S' (.acc (o :: o :: rdx) (some o) :: log) K) : VTops P ow (⟨some d, none, .op (.app esh bytes s x)⟩ :: rs) fr S log K := by
 have ho := hS.at hr.mem
 refine a0H (v := .ref o (ver + 1) 0 (n + m) esh) (rd := o :: rdx) (δ := some (o, .arr (ver + 1) (cs ++ ys))) ?_ rfl rfl (h _ (hS.rp hr))
 simp only [opV, b7C, e, e2, Option.bind_some, h1, if_true]
 rw [if_pos ⟨trivial, hb.1, hb.2⟩]
 simp only [v3, ho, if_true, Option.map_some, List.drop_zero]
 rw [← hl, List.take_left]
end
section
variable {P : Program} {S0 : List Ob} {ow : List Nat} {fr : Fr} {S : List Ob} {log : List LE}
end
section
variable {P : Program} {S0 : List Ob} {ow : List Nat} {fr : Fr} {S : List Ob} {log : List LE} {L L' : List It}
end
end Go.Ab
namespace Go.Proofs.Ytnpemocpfdgaoaa
open Go Go.Ab
set_option maxRecDepth 20000
set_option maxHeartbeats 2000000
def b8F : FC := .reg [⟨(some 2), none, .op (.mv (.v (.int .u64 0)))⟩] []
def b8G : FC := .reg [⟨(some 4), none, .op (.mv (.t 0))⟩,  ⟨(some 5), none, .op (.bin .ptr .eql (.t 4) (.v .nilp))⟩] []
def b8H : FC := .reg [⟨(some 2), none, .op (.mv (.v (.int .u64 0)))⟩] []
def b8I : FC := .seq b8H FC.ret
def b8J : FC := .cond (.t 5) b8I FC.skip
def b8K : FC := .seq b8G b8J
def b8L : FC := .reg [⟨(some 3), none, .op (.mv (.v (.int .u64 0)))⟩] []
def b8M : FC := .reg [⟨(some 6), none, .op (.mv (.t 0))⟩,  ⟨(some 7), none, .op (.nchk (.t 6))⟩,  ⟨(some 8), none, .op (.fad 0 (.t 7))⟩,  ⟨(some 9), none, .op (.load none (.t 8))⟩,  ⟨(some 10), none, .op (.len .sl (.t 9))⟩,  ⟨(some 11), none, .op (.bin .none .gtr (.t 10) (.v (.int .i64 0)))⟩] []
def b8N : FC := .reg [⟨(some 12), none, .op (.mv (.t 0))⟩,  ⟨(some 13), none, .op (.mv (.t 0))⟩,  ⟨(some 14), none, .op (.nchk (.t 13))⟩,  ⟨(some 15), none, .op (.fad 0 (.t 14))⟩,  ⟨(some 16), none, .op (.load none (.t 15))⟩,  ⟨(some 17), none, .op (.iad none none (.t 16) (.v (.int .i64 0)))⟩,  ⟨(some 18), none, .op (.load none (.t 17))⟩,  ⟨(some 19), none, .op (.mv (.t 0))⟩,  ⟨(some 20), none, .op (.nchk (.t 19))⟩,  ⟨(some 21), none, .op (.fad 0 (.t 20))⟩,  ⟨(some 22), none, .op (.load none (.t 21))⟩,  ⟨(some 23), none, .op (.slc none (.t 22) (some (.v (.int .i64 1))) none none)⟩,  ⟨(some 3), none, .op (.mv (.t 18))⟩,  ⟨(some 24), none, .op (.nchk (.t 12))⟩,  ⟨(some 25), none, .op (.fad 0 (.t 24))⟩,  ⟨none, none, .op (.store 1 (.t 25) (.t 23))⟩] []
def b2K : FC := .cond (.t 11) b8N FC.skip
def b2L : FC := .seq b8M b2K
def b2M : FC := .reg [⟨(some 26), none, .op (.mv (.t 0))⟩,  ⟨(some 27), none, .op (.mv (.t 0))⟩,  ⟨(some 28), none, .op (.nchk (.t 27))⟩,  ⟨(some 29), none, .op (.fad 1 (.t 28))⟩,  ⟨(some 30), none, .op (.load none (.t 29))⟩,  ⟨(some 31), none, .op (.mv (.t 3))⟩,  ⟨(some 32), none, .op (.build [(.int .i64 0), (.int .u64 0)] [(0, 1, (.v (.int .i64 2))), (1, 1, (.t 31))])⟩,  ⟨(some 33), none, .op (.bsl (some 2) [(.int .i64 0), (.int .u64 0)] 1 [(0, 2, (.t 32))])⟩,  ⟨(some 34), none, .op (.app (some 2) 16 (.t 30) (.t 33))⟩,  ⟨(some 35), none, .op (.nchk (.t 26))⟩,  ⟨(some 36), none, .op (.fad 1 (.t 35))⟩,  ⟨none, none, .op (.store 1 (.t 36) (.t 34))⟩] []
def b2N : FC := .reg [⟨(some 37), none, .op (.mv (.t 3))⟩,  ⟨(some 2), none, .op (.mv (.t 37))⟩] []
def b2O : FC := .seq b2N FC.ret
def b2P : FC := .seq b2M b2O
def b2Q : FC := .seq b2L b2P
def b2R : FC := .seq b8L b2Q
def b2S : FC := .seq b8K b2R
def b2T : FC := .seq b8F b2S
def c3v : FC := b2T
theorem c3w : Fn3 Try.prog 139 38 [(2, none)] c3v := ⟨_, _, Try.func139, rfl, rfl, rfl, by kernel_rfl⟩

def b8O : FC := .reg [⟨(some 4), none, .op (.mv (.t 0))⟩,  ⟨(some 5), none, .op (.bin .ptr .neq (.t 4) (.v .nilp))⟩] []
def b8P : FC := .reg [⟨(some 6), none, .op (.mv (.t 0))⟩,  ⟨(some 7), none, .op (.mv (.t 0))⟩,  ⟨(some 8), none, .op (.nchk (.t 7))⟩,  ⟨(some 9), none, .op (.fad 1 (.t 8))⟩,  ⟨(some 10), none, .op (.load none (.t 9))⟩,  ⟨(some 11), none, .op (.mv (.t 1))⟩,  ⟨(some 12), none, .op (.build [(.int .i64 0), (.int .u64 0)] [(0, 1, (.v (.int .i64 1))), (1, 1, (.t 11))])⟩,  ⟨(some 13), none, .op (.bsl (some 2) [(.int .i64 0), (.int .u64 0)] 1 [(0, 2, (.t 12))])⟩,  ⟨(some 14), none, .op (.app (some 2) 16 (.t 10) (.t 13))⟩,  ⟨(some 15), none, .op (.nchk (.t 6))⟩,  ⟨(some 16), none, .op (.fad 1 (.t 15))⟩,  ⟨none, none, .op (.store 1 (.t 16) (.t 14))⟩] []
def b8Q : FC := .cond (.t 5) b8P FC.skip
def b8R : FC := .seq b8O b8Q
def c3x : FC := b8R
theorem c3y : Fn3 Try.prog 147 17 [] c3x := ⟨_, _, Try.func147, rfl, rfl, rfl, by kernel_rfl⟩

def c3z : FC := .reg [⟨(some 2), none, .op (.mv (.v (.int .i64 0)))⟩] []
def c3A : FC := .reg [⟨(some 3), none, .op (.mv (.t 0))⟩,  ⟨(some 4), none, .op (.nchk (.t 3))⟩,  ⟨(some 5), none, .op (.fad 8 (.t 4))⟩,  ⟨(some 6), none, .op (.load none (.t 5))⟩,  ⟨(some 7), none, .op (.len .sl (.t 6))⟩,  ⟨(some 2), none, .op (.mv (.t 7))⟩] []
def c3B : FC := .seq c3A FC.ret
def c3C : FC := .seq c3z c3B
def c5N : FC := c3C
theorem c5O : Fn3 Try.prog 42 8 [(2, none)] c5N := ⟨_, _, Try.func42, rfl, rfl, rfl, by kernel_rfl⟩

def inV (tape : List Int) : Int := tape.headD 0
section
variable {tape : List Int} {evs : List k6} {tr te tv : Nat}
theorem a9g {S : List Ob} {K v : Int} : a7V (some 2) (.sl true 2 [.agg [.int .i64 K, .int .u64 v]]) S = some (1, flat k6.av [(⟨K, v⟩ : k6)], []) := a4l (f := k6.av) (esh := some 2) [(⟨K, v⟩ : k6)]
theorem b8S (hl : evs.length < 1000000000) :
  Tri Try.prog 139 [.ptr tr 0 0] [(tr, 0, [.sl false 1 (tape.map (avI .u64)), .ref te tv 0 evs.length (some 2)]), (te, tv, flat k6.av evs)]
   (fun r L' => r = .int .u64 (inV tape) ∧ L' = [(tr, 0, [.sl false 1 (tape.tail.map (avI .u64)), .ref te (tv + 1) 0 (evs ++ [(⟨2, inV tape⟩ : k6)]).length (some 2)]), (te, tv + 1, flat k6.av (evs ++ [(⟨2, inV tape⟩ : k6)]))]) := by
 refine l6 mixed c3w zS [] (fun R S hS => ?_)
 refine aU ?_
 refine f9 (t := false) rfl (fun h => by cases h) (fun _ => ?_)
 refine aU ?_
 refine d7 hS rfl (.head _) (v := .sl false 1 (tape.map (avI .u64))) rfl ?_
 refine aU ?_
 cases tape with
 | nil =>
   refine f9 (t := false) rfl (fun h => by cases h) (fun _ => ?_)
   refine aU ?_
   refine d7 hS rfl (.head _) (v := .ref te tv 0 evs.length (some 2)) rfl ?_
   refine aU ?_
   refine a7D (o := te) (ver := tv) (l := evs) (m := [(⟨2, 0⟩ : k6)]) (j := []) hS k6.enc rfl a9g (Rp.there (by rw [List.append_nil]; exact Rp.here)) ⟨by simp; omega, by simp; omega⟩ (fun S hS => ?_)
   refine aU ?_
   refine E_stS hS rfl zC (by first | exact Rp.here | (repeat (first | exact Rp.here | apply Rp.there | apply Rp.skip))) rfl rfl (by first | exact Nat.le_of_ble_eq_true rfl | (simp; omega) | omega) (fun S hS => ?_)
   refine aU ?_
   refine g8 ?_
   (repeat (first | refine j3 ?_ | refine j4 ?_ | refine j5 rfl ?_ | refine f6 ?_ | refine f8 ?_ | refine j2 ?_))
   exact ⟨trivial, _, rfl, _, ⟨rfl, rfl⟩, hS⟩
 | cons v l =>
   refine f9 (t := true) (by show AV.bool (decide (((v :: l).length : Int) > 0)) = _; rw [decide_eq_true (by simp only [List.length_cons]; omega)]) (fun _ => ?_) (fun h => by cases h)
   refine aU ?_
   refine d7 hS rfl (.head _) (v := .sl false 1 ((v :: l).map (avI .u64))) rfl ?_
   refine aU ?_
   refine p9 (esh := none) (f := avI .u64) (ys := v :: l) (y := v) rfl rfl rfl ?_
   refine aU ?_
   refine d7 hS rfl (.head _) (v := .sl false 1 ((v :: l).map (avI .u64))) rfl ?_
   refine aU ?_
   refine b1P (esh := none) (f := avI .u64) (l := v :: l) (a := 1) (b := l.length + 1) rfl rfl rfl ⟨by omega, by simp⟩ ?_
   refine aU ?_
   refine E_stS hS rfl (xv := .sl false 1 (l.map (avI .u64))) (by show AV.sl false 1 (List.map (avI .u64) (List.drop 1 (List.take (l.length + 1) (v :: l)))) = _; simp) Rp.here rfl rfl (by first | exact Nat.le_of_ble_eq_true rfl | (simp; omega) | omega) (fun S hS => ?_)
   refine aU ?_
   refine d7 hS rfl (.head _) (v := .ref te tv 0 evs.length (some 2)) rfl ?_
   refine aU ?_
   refine a7D (o := te) (ver := tv) (l := evs) (m := [(⟨2, v⟩ : k6)]) (j := []) hS k6.enc rfl a9g (Rp.there (by rw [List.append_nil]; exact Rp.here)) ⟨by simp; omega, by simp; omega⟩ (fun S hS => ?_)
   refine aU ?_
   refine E_stS hS rfl zC (by first | exact Rp.here | (repeat (first | exact Rp.here | apply Rp.there | apply Rp.skip))) rfl rfl (by first | exact Nat.le_of_ble_eq_true rfl | (simp; omega) | omega) (fun S hS => ?_)
   refine aU ?_
   refine g8 ?_
   (repeat (first | refine j3 ?_ | refine j4 ?_ | refine j5 rfl ?_ | refine f6 ?_ | refine f8 ?_ | refine j2 ?_))
   exact ⟨trivial, _, rfl, _, ⟨rfl, rfl⟩, hS⟩
theorem b2U {v : Int} (hl : evs.length < 1000000000) :
  Tri Try.prog 147 [.ptr tr 0 0, .int .u64 v] [(tr, 0, [.sl false 1 (tape.map (avI .u64)), .ref te tv 0 evs.length (some 2)]), (te, tv, flat k6.av evs)]
   (fun _ L' => L' = [(tr, 0, [.sl false 1 (tape.map (avI .u64)), .ref te (tv + 1) 0 (evs ++ [(⟨1, v⟩ : k6)]).length (some 2)]), (te, tv + 1, flat k6.av (evs ++ [(⟨1, v⟩ : k6)]))]) := by
 refine l6 mixed c3y zS [] (fun R S hS => ?_)
 refine aU ?_
 refine f9 (t := true) rfl (fun _ => ?_) (fun h => by cases h)
 refine aU ?_
 refine d7 hS rfl (.head _) (v := .ref te tv 0 evs.length (some 2)) rfl ?_
 refine aU ?_
 refine a7D (o := te) (ver := tv) (l := evs) (m := [(⟨1, v⟩ : k6)]) (j := []) hS k6.enc rfl a9g (Rp.there (by rw [List.append_nil]; exact Rp.here)) ⟨by simp; omega, by simp; omega⟩ (fun S hS => ?_)
 refine aU ?_
 refine E_stS hS rfl zC (by first | exact Rp.here | (repeat (first | exact Rp.here | apply Rp.there | apply Rp.skip))) rfl rfl (by first | exact Nat.le_of_ble_eq_true rfl | (simp; omega) | omega) (fun S hS => ?_)
 refine aU ?_
 (repeat (first | refine j3 ?_ | refine j4 ?_ | refine j5 rfl ?_ | refine f6 ?_ | refine f8 ?_ | refine j2 ?_))
 exact ⟨trivial, _, rfl, _, rfl, hS⟩
end
section
variable {a0 a1 a2 a3 a4 a5 a6 a7 a9 a10 : AV} {m ro rv n : Nat}
theorem a9h : a4M Try.prog 42 [.ptr m 0 0] [(m, 0, [a0, a1, a2, a3, a4, a5, a6, a7, .ref ro rv 0 n none, a9, a10])] (.int .i64 n) := by
 refine a1b mixed c5O zS [] (fun R S hS => ?_)
 refine aU ?_
 refine d7 hS rfl (.head _) (v := .ref ro rv 0 n none) rfl ?_
 refine aU ?_
 refine g8 ?_
 (repeat (first | refine j3 ?_ | refine j4 ?_ | refine j5 rfl ?_ | refine f6 ?_ | refine f8 ?_ | refine j2 ?_))
 exact ⟨trivial, _, rfl, rfl, rfl⟩
end
end Go.Proofs.Ytnpemocpfdgaoaa

/- irun.frame's place, get, set, Keep: the walks. -/
namespace Go.Proofs.Ytnpemocpfdgaoaa
open Go Go.Ab
set_option maxRecDepth 20000
set_option maxHeartbeats 2000000
def b8T : FC := .reg [⟨(some 4), none, .op (.mv (.v .nilp))⟩] []
def b8U : FC := .reg [⟨(some 5), none, .op (.mv (.t 0))⟩,  ⟨(some 6), none, .op (.nchk (.t 5))⟩,  ⟨(some 7), none, .op (.fad 0 (.t 6))⟩,  ⟨(some 8), none, .op (.load none (.t 7))⟩,  ⟨(some 9), none, .op (.nchk (.t 8))⟩,  ⟨(some 10), none, .op (.fad 1 (.t 9))⟩,  ⟨(some 11), none, .op (.load none (.t 10))⟩,  ⟨(some 12), none, .op (.mv (.t 11))⟩,  ⟨(some 13), some (12, true), .op (.mv (.t 1))⟩,  ⟨(some 14), some (12, true), .op (.bin .none .lss (.t 13) (.v (.int .i64 16)))⟩,  ⟨(some 15), none, .op (.pick (.t 12) (.t 14) (.v (.bool false)))⟩] []
def b8V : FC := .reg [⟨(some 16), none, .op (.mv (.t 0))⟩,  ⟨(some 17), none, .op (.nchk (.t 16))⟩,  ⟨(some 18), none, .op (.fad 0 (.t 17))⟩,  ⟨(some 19), none, .op (.load none (.t 18))⟩,  ⟨(some 20), none, .op (.mv (.t 1))⟩,  ⟨(some 21), none, .op (.nchk (.t 19))⟩,  ⟨(some 22), none, .op (.fad 2 (.t 21))⟩,  ⟨(some 23), none, .op (.iad (some 16) none (.t 22) (.t 20))⟩,  ⟨(some 4), none, .op (.mv (.t 23))⟩] []
def b8W : FC := .seq b8V FC.ret
def b8X : FC := .cond (.t 15) b8W FC.skip
def b8Y : FC := .seq b8U b8X
def b8Z : FC := .reg [⟨(some 24), none, .op (.mv (.t 0))⟩,  ⟨(some 25), none, .op (.nchk (.t 24))⟩,  ⟨(some 26), none, .op (.fad 2 (.t 25))⟩,  ⟨(some 27), none, .op (.load none (.t 26))⟩,  ⟨(some 28), none, .op (.mv (.t 1))⟩,  ⟨(some 29), none, .op (.iad none none (.t 27) (.t 28))⟩,  ⟨(some 4), none, .op (.mv (.t 29))⟩] []
def b9a : FC := .seq b8Z FC.ret
def b9b : FC := .seq b8Y b9a
def b2V : FC := .seq b8T b9b
def c3D : FC := b2V
theorem c3E : Fn3 Try.prog 106 30 [(4, none)] c3D := ⟨_, _, Try.func106, rfl, rfl, rfl, by kernel_rfl⟩

def b9c : FC := .reg [⟨(some 4), none, .op (.mv (.v (.int .u64 0)))⟩] []
def b9d : FC := .reg [⟨(some 5), none, .op (.mv (.t 0))⟩,  ⟨(some 6), none, .op (.mv (.t 1))⟩,  ⟨(some 7), none, .call 106 [(.t 5), (.t 6)]⟩,  ⟨(some 8), none, .op (.nchk (.t 7))⟩,  ⟨(some 9), none, .op (.load none (.t 8))⟩,  ⟨(some 4), none, .op (.mv (.t 9))⟩] []
def b9e : FC := .seq b9d FC.ret
def b9f : FC := .seq b9c b9e
def c3F : FC := b9f
theorem c3G : Fn3 Try.prog 163 10 [(4, none)] c3F := ⟨_, _, Try.func163, rfl, rfl, rfl, by kernel_rfl⟩

def c3H : FC := .reg [⟨(some 6), none, .op (.mv (.t 1))⟩,  ⟨(some 7), none, .op (.bin .none .geq (.t 6) (.v (.int .i64 0)))⟩] []
def c3I : FC := .reg [⟨(some 8), none, .op (.mv (.t 0))⟩,  ⟨(some 9), none, .op (.mv (.t 1))⟩,  ⟨(some 10), none, .call 106 [(.t 8), (.t 9)]⟩,  ⟨(some 11), none, .op (.mv (.t 2))⟩,  ⟨(some 12), none, .op (.nchk (.t 10))⟩,  ⟨none, none, .op (.store 1 (.t 12) (.t 11))⟩] []
def c3J : FC := .cond (.t 7) c3I FC.skip
def c3K : FC := .seq c3H c3J
def c5P : FC := c3K
theorem c5Q : Fn3 Try.prog 71 13 [] c5P := ⟨_, _, Try.func71, rfl, rfl, rfl, by kernel_rfl⟩

def b9g : FC := .reg [⟨(some 2), none, .op (.mv (.v (.int .u64 0)))⟩] []
def b9h : FC := .reg [⟨(some 3), none, .op (.mv (.t 0))⟩,  ⟨(some 4), none, .op (.nchk (.t 3))⟩,  ⟨(some 5), none, .op (.fad 1 (.t 4))⟩,  ⟨(some 6), none, .op (.load none (.t 5))⟩,  ⟨(some 7), none, .op (.nchk (.t 6))⟩,  ⟨(some 8), none, .op (.fad 5 (.t 7))⟩,  ⟨(some 9), none, .op (.load none (.t 8))⟩,  ⟨(some 10), none, .op (.bin .none .lss (.t 9) (.v (.int .i64 0)))⟩] []
def b9i : FC := .reg [⟨(some 2), none, .op (.mv (.v (.int .u64 0)))⟩] []
def b9j : FC := .seq b9i FC.ret
def b9k : FC := .cond (.t 10) b9j FC.skip
def b9l : FC := .seq b9h b9k
def b9m : FC := .reg [⟨(some 11), none, .op (.mv (.t 0))⟩,  ⟨(some 12), none, .op (.nchk (.t 11))⟩,  ⟨(some 13), none, .op (.fad 3 (.t 12))⟩,  ⟨(some 14), none, .op (.load none (.t 13))⟩,  ⟨(some 15), none, .op (.mv (.t 0))⟩,  ⟨(some 16), none, .op (.nchk (.t 15))⟩,  ⟨(some 17), none, .op (.fad 1 (.t 16))⟩,  ⟨(some 18), none, .op (.load none (.t 17))⟩,  ⟨(some 19), none, .op (.nchk (.t 18))⟩,  ⟨(some 20), none, .op (.fad 5 (.t 19))⟩,  ⟨(some 21), none, .op (.load none (.t 20))⟩,  ⟨(some 22), none, .op (.iad none none (.t 14) (.t 21))⟩,  ⟨(some 23), none, .op (.load none (.t 22))⟩,  ⟨(some 2), none, .op (.mv (.t 23))⟩] []
def b9n : FC := .seq b9m FC.ret
def b9o : FC := .seq b9l b9n
def b2W : FC := .seq b9g b9o
def c3L : FC := b2W
theorem c3M : Fn3 Try.prog 161 24 [(2, none)] c3L := ⟨_, _, Try.func161, rfl, rfl, rfl, by kernel_rfl⟩

section
variable {p : GP} {f : SFr} {q : FO}
def SFr.isP (p : GP) (f : SFr) (k : Int) : Prop := (p.bound = true → 16 ≤ k) ∧ 0 ≤ k ∧ k < f.lo.length
instance (p : GP) (f : SFr) (k : Int) : Decidable (f.isP p k) := by unfold SFr.isP; exact inferInstance
theorem a5A {k : Int} (h : f.isP p k) : a4M Try.prog 106 [.ptr q.x 0 0, .int .i64 k] (frL p f q) (.ptr q.l 0 k.toNat) := by
 obtain ⟨h1, h2, h3⟩ := h
 obtain ⟨fs, b⟩ := p
 dsimp only at h1
 refine a1b mixed c3E zS [] (fun R S hS => ?_)
 cases b with
 | true =>
   have := h1 rfl
   refine aU ?_
   refine d7 hS rfl (.head _) (v := .cptr (GP.cells ⟨fs, true⟩) 0) rfl ?_
   refine aU ?_
   refine f9 (t := false) (by show AV.bool (decide (k < 16)) = _; rw [decide_eq_false zO]) (fun h => by cases h) (fun _ => ?_)
   refine aU ?_
   refine d7 hS rfl (.head _) (v := .ref q.l 0 0 f.lo.length none) rfl ?_
   refine aU ?_
   refine v7 rfl rfl k.toNat zO zO ?_
   refine aU ?_
   refine g8 ?_
   (repeat (first | refine j3 ?_ | refine j4 ?_ | refine j5 rfl ?_ | refine f6 ?_ | refine f8 ?_ | refine j2 ?_))
   exact ⟨trivial, _, rfl, by show AV.ptr q.l 0 (0 + k.toNat * f5 none) = _; simp [f5], rfl⟩
 | false =>
   refine aU ?_
   refine d7 hS rfl (.head _) (v := .cptr (GP.cells ⟨fs, false⟩) 0) rfl ?_
   refine aU ?_
   refine f9 (t := false) rfl (fun h => by cases h) (fun _ => ?_)
   refine aU ?_
   refine d7 hS rfl (.head _) (v := .ref q.l 0 0 f.lo.length none) rfl ?_
   refine aU ?_
   refine v7 rfl rfl k.toNat zO zO ?_
   refine aU ?_
   refine g8 ?_
   (repeat (first | refine j3 ?_ | refine j4 ?_ | refine j5 rfl ?_ | refine f6 ?_ | refine f8 ?_ | refine j2 ?_))
   exact ⟨trivial, _, rfl, by show AV.ptr q.l 0 (0 + k.toNat * f5 none) = _; simp [f5], rfl⟩
def SFr.get (p : GP) (f : SFr) (k : Int) : Option Int := if f.isP p k then f.lo[k.toNat]? else none
theorem SFr.get_some {k v : Int} (h : f.get p k = some v) : f.isP p k ∧ f.lo[k.toNat]? = some v := by
 unfold SFr.get at h
 split at h
 ·rename_i h1; exact ⟨h1, h⟩
 ·cases h
theorem a9i {k v : Int} (h : f.get p k = some v) : a4M Try.prog 163 [.ptr q.x 0 0, .int .i64 k] (frL p f q) (.int .u64 v) := by
 obtain ⟨h1, h2⟩ := SFr.get_some h
 refine a1b mixed c3G zS [] (fun R S hS => ?_)
 refine aU ?_
 refine a2d (a5A h1) hS rfl (.refl _) ?_
 refine aU ?_
 refine a7c hS (m9 .u64) rfl (.tail _ (.head _)) (n := k.toNat) (fo := 0) (y := v) (by simp [f5]) h2 (v := .int .u64 v) rfl ?_
 refine aU ?_
 refine g8 ?_
 (repeat (first | refine j3 ?_ | refine j4 ?_ | refine j5 rfl ?_ | refine f6 ?_ | refine f8 ?_ | refine j2 ?_))
 exact ⟨trivial, _, rfl, rfl, rfl⟩
def SFr.set (p : GP) (f : SFr) (k v : Int) : Option SFr := if 0 ≤ k then (if f.isP p k then some { f with lo := f.lo.set k.toNat v } else none) else some f
theorem a6m {k v : Int} {f' : SFr} (h : f.set p k v = some f') : Tri Try.prog 71 [.ptr q.x 0 0, .int .i64 k, .int .u64 v] (frL p f q) (fun r L' => L' = frL p f' q) := by
 unfold SFr.set at h
 refine l6 mixed c5Q zS [] (fun R S hS => ?_)
 refine aU ?_
 split at h
 ·rename_i h0
  split at h
  ·rename_i h1
   cases h
   obtain ⟨w, hw⟩ : ∃ w, f.lo[k.toNat]? = some w := ⟨_, List.getElem?_eq_getElem (by have := h1.2; omega)⟩
   refine f9 (t := true) (by show AV.bool (decide (k ≥ 0)) = _; rw [decide_eq_true h0]) (fun _ => ?_) (fun h => by cases h)
   refine aU ?_
   refine a2d (a5A h1) hS rfl (.refl _) ?_
   refine aU ?_
   refine a7d (y' := v) (l := f.lo) hS (m9 .u64) rfl (xv := .int .u64 v) rfl (n := k.toNat) (fo := 0) (y := w) (by simp [f5]) hw (Rp.there Rp.here) rfl rfl (by simp [f5]) rfl (fun S hS => ?_)
   refine aU ?_
   (repeat (first | refine j3 ?_ | refine j4 ?_ | refine j5 rfl ?_ | refine f6 ?_ | refine f8 ?_ | refine j2 ?_))
   refine ⟨trivial, _, rfl, _, rfl, ?_⟩
   show Sep S ((q.x, 0, [_, _, .ref q.l 0 0 (f.lo.set k.toNat v).length none, _, _, _, _, _, _, _, _, _, _, _, _, _, _, _, _]) :: _)
   rw [List.length_set]
   exact hS
  ·cases h
 ·rename_i h0
  cases h
  refine f9 (t := false) (by show AV.bool (decide (k ≥ 0)) = _; rw [decide_eq_false h0]) (fun h => by cases h) (fun _ => ?_)
  refine aU ?_
  (repeat (first | refine j3 ?_ | refine j4 ?_ | refine j5 rfl ?_ | refine f6 ?_ | refine f8 ?_ | refine j2 ?_))
  exact ⟨trivial, _, rfl, _, rfl, hS⟩
def a7G (f : SFr) : Option Int := if f.f.Keep < 0 then some 0 else u4 f.ce f.f.Keep
theorem b1e {v : Int} (hv : a7G f = some v) : Tri Try.prog 161 [.ptr q.x 0 0] (frL p f q) (fun r L' => r = .int .u64 v ∧ L' = frL p f q) := by
 refine l6 mixed c3M zS [] (fun R S hS => ?_)
 refine aU ?_
 refine d7 hS rfl (.head _) (v := .cptr (b9.av f.f).cells 0) rfl ?_
 refine aU ?_
 unfold a7G at hv
 refine f9 (t := decide (f.f.Keep < 0)) rfl (fun hk => ?_) (fun hk => ?_)
 ·rw [if_pos (of_decide_eq_true hk)] at hv; cases hv
  refine aU ?_
  refine g8 ?_
  (repeat (first | refine j3 ?_ | refine j4 ?_ | refine j5 rfl ?_ | refine f6 ?_ | refine f8 ?_ | refine j2 ?_))
  exact ⟨trivial, _, rfl, _, ⟨rfl, rfl⟩, hS⟩
 ·rw [if_neg (of_decide_eq_false hk)] at hv
  obtain ⟨h1, h2, h3⟩ := a0s hv
  refine aU ?_
  refine d7 hS rfl (.head _) (v := .ref q.t 0 0 f.ce.length none) rfl ?_
  refine aU ?_
  refine d7 hS rfl (.head _) (v := .cptr (b9.av f.f).cells 0) rfl ?_
  refine aU ?_
  refine v7 rfl rfl f.f.Keep.toNat zO zO ?_
  refine a7c hS (m9 .u64) rfl (.tail _ (.tail _ (.head _))) (n := f.f.Keep.toNat) (fo := 0) (y := v) (by simp [f5]) h3 (v := .int .u64 v) rfl ?_
  refine aU ?_
  refine g8 ?_
  (repeat (first | refine j3 ?_ | refine j4 ?_ | refine j5 rfl ?_ | refine f6 ?_ | refine f8 ?_ | refine j2 ?_))
  exact ⟨trivial, _, rfl, _, ⟨rfl, rfl⟩, hS⟩
end
end Go.Proofs.Ytnpemocpfdgaoaa

/- irun.frame's args, Back: the walks. -/
namespace Go.Proofs.Ytnpemocpfdgaoaa
open Go Go.Ab
set_option maxRecDepth 20000
set_option maxHeartbeats 2000000
def b9p : FC := .reg [⟨(some 3), none, .op (.box (.t 1))⟩,  ⟨(some 4), none, .op (.mv (.v .nils))⟩] []
def b9q : FC := .reg [⟨(some 5), none, .op (.mv (.v .nils))⟩] []
def b9r : FC := .reg [⟨(some 8), none, .op (.fad 9 (.t 3))⟩,  ⟨(some 9), none, .op (.load none (.t 8))⟩,  ⟨(some 10), none, .op (.len .sl (.t 9))⟩,  ⟨(some 11), none, .op (.mv (.v (.int .i64 0)))⟩] []
def b9s : FC := .reg [⟨(some 13), none, .op (.iad none none (.t 9) (.t 11))⟩,  ⟨(some 14), none, .op (.load none (.t 13))⟩,  ⟨(some 7), none, .op (.mv (.t 14))⟩] []
def b9t : FC := .reg [⟨(some 15), none, .op (.mv (.t 5))⟩,  ⟨(some 16), none, .op (.mv (.t 0))⟩,  ⟨(some 17), none, .op (.mv (.t 7))⟩,  ⟨(some 18), none, .call 163 [(.t 16), (.t 17)]⟩,  ⟨(some 19), none, .op (.bsl none [(.int .u64 0)] 1 [(0, 1, (.t 18))])⟩,  ⟨(some 20), none, .op (.app none 8 (.t 15) (.t 19))⟩,  ⟨(some 5), none, .op (.mv (.t 20))⟩] []
def b9u : FC := .seq b9s b9t
def b9v : FC := .loop (.seq (.reg [⟨(some 12), none, .op (.bin .none .lss (.t 11) (.t 10))⟩] []) (.seq (.cond (.t 12) .skip (.exit 0)) (.seq (.block 1 b9u) (.reg [⟨(some 21), none, .op (.bin .none .add (.t 11) (.v (.int .i64 1)))⟩,  ⟨(some 11), none, .op (.mv (.t 21))⟩] []))))
def b9w : FC := .block 0 b9v
def b9x : FC := .seq b9r b9w
def b2X : FC := .reg [⟨(some 22), none, .op (.mv (.t 5))⟩,  ⟨(some 4), none, .op (.mv (.t 22))⟩] []
def b2Y : FC := .seq b2X FC.ret
def b2Z : FC := .seq b9x b2Y
def b3a : FC := .seq b9q b2Z
def b3b : FC := .seq b9p b3a
def c3N : FC := b3b
theorem c3O : Fn3 Try.prog 166 23 [(4, none)] c3N := ⟨_, _, Try.func166, rfl, rfl, rfl, by kernel_rfl⟩

def b9y : FC := .reg [⟨(some 7), none, .op (.mv (.t 0))⟩,  ⟨(some 8), none, .op (.nchk (.t 7))⟩,  ⟨(some 9), none, .op (.fad 1 (.t 8))⟩,  ⟨(some 10), none, .op (.load none (.t 9))⟩,  ⟨(some 11), none, .op (.nchk (.t 10))⟩,  ⟨(some 12), none, .op (.fad 6 (.t 11))⟩,  ⟨(some 13), none, .op (.load none (.t 12))⟩,  ⟨(some 14), none, .op (.mv (.t 0))⟩,  ⟨(some 15), none, .op (.nchk (.t 14))⟩,  ⟨(some 16), none, .op (.fad 4 (.t 15))⟩,  ⟨(some 17), none, .op (.load none (.t 16))⟩,  ⟨(some 18), none, .op (.iad none (some 12) (.t 13) (.t 17))⟩,  ⟨(some 19), none, .op (.load (some 12) (.t 18))⟩,  ⟨(some 4), none, .op (.new [(.int .u8 0), (.int .u8 0), (.int .i64 0), (.int .i64 0), (.int .i64 0), (.int .i64 0), (.int .i64 0), (.int .i64 0), (.int .u64 0), .nils, (.int .i64 0), (.int .i64 0)])⟩,  ⟨none, none, .op (.store 12 (.t 4) (.t 19))⟩] [(3, 13), (6, 13), (10, 13), (12, 13)]
def b9z : FC := .reg [⟨(some 20), none, .op (.mv (.t 0))⟩,  ⟨(some 21), none, .op (.nchk (.t 20))⟩,  ⟨(some 22), none, .op (.fad 0 (.t 21))⟩,  ⟨(some 23), none, .op (.load none (.t 22))⟩,  ⟨(some 24), none, .op (.nchk (.t 23))⟩,  ⟨(some 25), none, .op (.fad 0 (.t 24))⟩,  ⟨(some 26), none, .op (.load none (.t 25))⟩,  ⟨(some 27), none, .op (.fad 6 (.t 4))⟩,  ⟨(some 28), none, .op (.load none (.t 27))⟩,  ⟨(some 29), none, .op (.iad none (some 8) (.t 26) (.t 28))⟩,  ⟨(some 30), none, .op (.fad 4 (.t 29))⟩,  ⟨(some 31), none, .op (.load none (.t 30))⟩,  ⟨(some 5), none, .op (.mv (.t 31))⟩] []
def b9A : FC := .reg [⟨(some 32), none, .op (.mv (.t 0))⟩,  ⟨(some 33), none, .op (.nchk (.t 32))⟩,  ⟨(some 34), none, .op (.fad 0 (.t 33))⟩,  ⟨(some 35), none, .op (.load none (.t 34))⟩,  ⟨(some 36), none, .op (.nchk (.t 35))⟩,  ⟨(some 37), none, .op (.fad 1 (.t 36))⟩,  ⟨(some 38), none, .op (.load none (.t 37))⟩] []
def b9B : FC := .reg [⟨(some 39), none, .op (.mv (.v (.int .i64 0)))⟩] []
def b9C : FC := .reg [⟨(some 41), none, .op (.mv (.t 39))⟩,  ⟨(some 6), none, .op (.mv (.t 41))⟩] []
def b9D : FC := .reg [⟨(some 51), none, .op (.mv (.t 6))⟩,  ⟨(some 52), none, .op (.bin .none .eql (.t 51) (.v (.int .i64 0)))⟩,  ⟨(some 53), none, .op (.mv (.t 52))⟩,  ⟨(some 54), some (53, true), .op (.mv (.t 5))⟩,  ⟨(some 55), none, .op (.pick (.t 53) (.t 54) (.v (.bool false)))⟩,  ⟨(some 50), none, .op (.mv (.t 55))⟩] []
def b9E : FC := .reg [⟨(some 56), none, .op (.mv (.t 0))⟩,  ⟨(some 57), none, .op (.nchk (.t 56))⟩,  ⟨(some 58), none, .op (.fad 0 (.t 57))⟩,  ⟨(some 59), none, .op (.load none (.t 58))⟩,  ⟨(some 60), none, .op (.mv (.t 6))⟩,  ⟨(some 61), none, .op (.mv (.t 1))⟩,  ⟨(some 62), none, .op (.nchk (.t 59))⟩,  ⟨(some 63), none, .op (.fad 2 (.t 62))⟩,  ⟨(some 64), none, .op (.iad (some 16) none (.t 63) (.t 60))⟩,  ⟨none, none, .op (.store 1 (.t 64) (.t 61))⟩] []
def b9F : FC := .reg [⟨(some 66), none, .op (.mv (.t 6))⟩,  ⟨(some 67), none, .op (.bin .none .geq (.t 66) (.v (.int .i64 6)))⟩,  ⟨(some 68), none, .op (.mv (.t 67))⟩,  ⟨(some 69), some (68, true), .op (.mv (.t 6))⟩,  ⟨(some 70), some (68, true), .op (.bin .none .lss (.t 69) (.v (.int .i64 12)))⟩,  ⟨(some 71), none, .op (.pick (.t 68) (.t 70) (.v (.bool false)))⟩,  ⟨(some 65), none, .op (.mv (.t 71))⟩] []
def b9G : FC := .reg [⟨(some 72), none, .op (.mv (.t 0))⟩,  ⟨(some 73), none, .op (.nchk (.t 72))⟩,  ⟨(some 74), none, .op (.fad 0 (.t 73))⟩,  ⟨(some 75), none, .op (.load none (.t 74))⟩,  ⟨(some 76), none, .op (.mv (.t 6))⟩,  ⟨(some 77), none, .op (.mv (.t 0))⟩,  ⟨(some 78), none, .op (.mv (.t 6))⟩,  ⟨(some 79), none, .op (.nchk (.t 77))⟩,  ⟨(some 80), none, .op (.fad 6 (.t 79))⟩,  ⟨(some 81), none, .op (.iad (some 12) none (.t 80) (.t 78))⟩,  ⟨(some 82), none, .op (.load none (.t 81))⟩,  ⟨(some 83), none, .op (.nchk (.t 75))⟩,  ⟨(some 84), none, .op (.fad 2 (.t 83))⟩,  ⟨(some 85), none, .op (.iad (some 16) none (.t 84) (.t 76))⟩,  ⟨none, none, .op (.store 1 (.t 85) (.t 82))⟩] []
def b3c : FC := .reg [⟨(some 42), none, .op (.mv (.t 0))⟩,  ⟨(some 43), none, .op (.nchk (.t 42))⟩,  ⟨(some 44), none, .op (.fad 0 (.t 43))⟩,  ⟨(some 45), none, .op (.load none (.t 44))⟩,  ⟨(some 46), none, .op (.mv (.t 6))⟩,  ⟨(some 47), none, .op (.nchk (.t 45))⟩,  ⟨(some 48), none, .op (.fad 2 (.t 47))⟩,  ⟨(some 49), none, .op (.iad (some 16) none (.t 48) (.t 46))⟩,  ⟨none, none, .op (.store 1 (.t 49) (.v (.int .u64 6510615555426900570)))⟩] []
def b3d : FC := .cond (.t 65) b9G b3c
def b3e : FC := .seq b9F b3d
def b3f : FC := .cond (.t 50) b9E b3e
def b3g : FC := .seq b9D b3f
def b3h : FC := .block 2 b3g
def b3i : FC := .seq b9C b3h
def b3j : FC := .loop (.seq (.reg [⟨(some 40), none, .op (.bin .none .lss (.t 39) (.v (.int .i64 16)))⟩] []) (.seq (.cond (.t 40) .skip (.exit 0)) (.seq (.block 1 b3i) (.reg [⟨(some 86), none, .op (.bin .none .add (.t 39) (.v (.int .i64 1)))⟩,  ⟨(some 39), none, .op (.mv (.t 86))⟩] []))))
def b3k : FC := .block 0 b3j
def b3l : FC := .seq b9B b3k
def b3m : FC := .reg [⟨(some 87), none, .op (.mv (.t 0))⟩,  ⟨(some 88), none, .op (.fad 2 (.t 4))⟩,  ⟨(some 89), none, .op (.load none (.t 88))⟩,  ⟨(some 90), none, .op (.mv (.t 1))⟩,  ⟨(some 91), none, .call 71 [(.t 87), (.t 89), (.t 90)]⟩] []
def b3n : FC := .cond (.t 38) b3l b3m
def b3o : FC := .seq b9A b3n
def b3p : FC := .reg [⟨(some 92), none, .op (.mv (.t 0))⟩,  ⟨(some 93), none, .op (.fad 10 (.t 4))⟩,  ⟨(some 94), none, .op (.load none (.t 93))⟩,  ⟨(some 95), none, .op (.nchk (.t 92))⟩,  ⟨(some 96), none, .op (.fad 4 (.t 95))⟩,  ⟨none, none, .op (.store 1 (.t 96) (.t 94))⟩] []
def b3q : FC := .seq b3o b3p
def b3r : FC := .seq b9z b3q
def b3s : FC := .seq b9y b3r
def c3P : FC := b3s
theorem c3Q : Fn3 Try.prog 160 97 [] c3P := ⟨_, _, Try.func160, rfl, rfl, rfl, by kernel_rfl⟩

def a2h (p : GP) (f : SFr) : List Int → Option (List Int)
 | [] => some []
 | k :: l => (f.get p k).bind fun v => (a2h p f l).map fun m => v :: m
theorem a5B {p : GP} {f : SFr} : ∀ {l ag : List Int}, a2h p f l = some ag → ag.length = l.length
 | [], _, h => by cases h; rfl
 | k :: l, ag, h => by
   obtain ⟨v, h1, h2⟩ := Option.bind_eq_some_iff.1 h
   obtain ⟨m, h3, rfl⟩ := Option.map_eq_some_iff.1 h2
   simp [a5B h3]
theorem a7g {p : GP} {f : SFr} : ∀ {l ag : List Int} (i : Nat) {k : Int}, a2h p f l = some ag → l[i]? = some k → ∃ v, f.get p k = some v ∧ ag[i]? = some v
 | [], _, i, k, _, h => by simp at h
 | k :: l, ag, i, k', h, hk => by
   obtain ⟨v, h1, h2⟩ := Option.bind_eq_some_iff.1 h
   obtain ⟨m, h3, rfl⟩ := Option.map_eq_some_iff.1 h2
   cases i with
   | zero => simp at hk; subst hk; exact ⟨v, h1, by simp⟩
   | succ i => simp at hk; simpa using a7g i h3 hk
section
variable {p : GP} {f : SFr} {q : FO}
theorem b1f {n : d8} {ag : List Int} (hv : a2h p f n.Args = some ag) (hl : n.Args.length < 100000000) :
  Tri Try.prog 166 [.ptr q.x 0 0, d8.av n] (frL p f q) (fun r L' => r = .sl false 1 (ag.map (avI .u64)) ∧ L' = frL p f q) := by
 have hag := a5B hv
 refine l6 mixed c3O zS [3] (fun R S hS => ?_)
 refine aU ?_
 refine a1i hS rfl (xv := d8.av n) rfl rfl (fun o3 S hS => ?_)
 refine aS ?_
 refine c7 ?_
 refine j1 ?_
 (repeat (first | refine a1P ?_ | refine g9 ?_ | refine d6 ?_ | refine m0 ?_))
 refine aS ?_
 refine c7 ?_
 refine c3f 5 none hS rfl (fun l S hS => ?_)
 refine aU ?_
 refine d7 hS rfl (.tail _ (.head _)) (v := .sl false 1 (n.Args.map (avI .i64))) rfl ?_
 refine aU ?_
 refine b1U n.Args.length (fun s : Nat => [(0, .ptr q.x 0 0), (9, .sl false 1 (n.Args.map (avI .i64))), (5, .ref l s 0 s none)]) (fun s => (l, s, flat (avI .u64) (ag.take s)) :: (o3, 0, d8.cells n) :: (frL p f q ++ R))
  (fun i s => s = i) 0 (by exact hS) rfl (a2a ⟨.refl _, .refl _, .refl _, .refl _, .refl _, trivial⟩) zO zD zD (fun _ => ⟨rfl, rfl, rfl, rfl⟩) (fun i s S hi hI hS => ?_) (fun s fr' S hI hS hw => ?_)
 ·subst hI
  have hk : n.Args[s]? = some n.Args[s] := List.getElem?_eq_getElem hi
  obtain ⟨v, h1, h2⟩ := a7g s hv hk
  have htl : (ag.take s).length = s := by simp; omega
  refine aU ?_
  refine p9 (esh := none) (f := avI .i64) (ys := n.Args) (y := n.Args[s]) (n := (s : Int)) rfl rfl (by unfold u4; rw [if_pos zO]; exact hk) ?_
  refine aU ?_
  refine a2d (a9i (p := p) (f := f) (q := q) h1) hS rfl (Spl.cons (Pk.there (Pk.there Pk.here)) (Spl.cons (Pk.there (Pk.there Pk.here)) (Spl.cons (Pk.there (Pk.there Pk.here)) Spl.nil))) ?_
  refine aU ?_
  refine a7D (o := l) (ver := s) (l := ag.take s) (m := [v]) (j := []) hS (m9 .u64) (by show AV.ref l s 0 s none = _; rw [htl]) (a4l [v]) (by rw [List.append_nil]; exact Rp.here) ⟨by simp; omega, by simp; omega⟩ (fun S hS => ?_)
  refine aU ?_
  have e : ag.take s ++ [v] = ag.take (s + 1) := by rw [List.take_add_one, h2]; rfl
  rw [e] at hS ⊢
  have htl2 : (ag.take (s + 1)).length = s + 1 := by simp; omega
  rw [htl2]
  exact R_n (s + 1) rfl hS (a2a ⟨.refl _, .refl _, .refl _, .refl _, .refl _, trivial⟩)
 ·subst hI
  rw [← hag, List.take_length] at hS
  rw [← hag] at hw
  refine a3v hw ?_
  (repeat (first | refine a1P ?_ | refine g9 ?_ | refine d6 ?_ | refine m0 ?_))
  refine aS ?_
  refine c7 ?_
  refine b8t (l := ag) 4 (m9 .u64) hS Pk.here rfl (fun S hS => ?_)
  refine aU ?_
  refine g8 ?_
  (repeat (first | refine j3 ?_ | refine j4 ?_ | refine j5 rfl ?_ | refine f6 ?_ | refine f8 ?_ | refine j2 ?_))
  exact ⟨trivial, _, rfl, _, ⟨rfl, rfl⟩, hS.sub (List.sublist_cons_self _ _)⟩
def SFr.back (p : GP) (f : SFr) (v : Int) : Option SFr := if p.bound then none else (u4 f.f.Nodes f.pc).bind fun n => (u4 p.Funcs n.F).bind fun _ => (f.set p n.D v).map fun f' => { f' with pc := n.Next }
theorem b1g {v : Int} {f' : SFr} (hv : f.back p v = some f') :
  Tri Try.prog 160 [.ptr q.x 0 0, .int .u64 v] (frL p f q) (fun r L' => ∃ q', q'.x = q.x ∧ q'.l = q.l ∧ L' = frL p f' q') := by
 unfold SFr.back at hv
 split at hv
 case isTrue => cases hv
 rename_i hb
 obtain ⟨n, hn, hv⟩ := Option.bind_eq_some_iff.1 hv
 obtain ⟨g, hg, hv⟩ := Option.bind_eq_some_iff.1 hv
 obtain ⟨f1, h1, h2⟩ := Option.map_eq_some_iff.1 hv
 subst h2
 have hb0 : p.bound = false := by simpa using hb
 refine l6 mixed c3Q zS [4] (fun R S hS => ?_)
 refine g9 ?_
 refine a0Q ?_
 refine aS ?_
 refine d7 hS rfl (.head _) (v := .cptr (b9.av f.f).cells 0) rfl ?_
 refine aU ?_
 refine d7 hS rfl (.head _) (v := .int .i64 f.pc) rfl ?_
 refine aU ?_
 refine p9 (esh := some 12) (f := d8.av) (ys := f.f.Nodes) (y := n) rfl rfl hn ?_
 refine aU ?_
 have hlt : q.x < S.length := hS.lt (.head _)
 refine b1b hS rfl (fun oi S1 hS1 => ?_)
 have hne : q.x ≠ oi := fun e => (List.nodup_cons.1 hS1.2).1 (by rw [← e]; exact List.mem_map.2 ⟨_, .head _, rfl⟩)
 refine E_stS hS1 rfl (xv := n.av) rfl Rp.here rfl rfl (by first | exact Nat.le_of_ble_eq_true rfl | (simp; omega) | omega) (fun S1 hS1 => ?_)
 refine c7 ?_
 refine And.intro (by simp [a0g, a3S, w9, a0h, hne, Ne.symm hne]) ?_
 refine aU ?_
 refine d7 hS1 rfl (.tail _ (.head _)) (v := .cptr (GP.cells p) 0) rfl ?_
 refine aU ?_
 refine d7 hS1 rfl (.head _) (v := .int .i64 n.F) rfl ?_
 refine aU ?_
 refine p9 (esh := some 8) (f := b9.av) (ys := p.Funcs) (y := g) rfl rfl hg ?_
 refine aU ?_
 refine d7 hS1 rfl (.tail _ (.head _)) (v := .cptr (GP.cells p) 0) rfl ?_
 refine aU ?_
 refine f9 (t := false) (by show AV.bool p.bound = _; rw [hb0]) (fun h => by cases h) (fun _ => ?_)
 refine aU ?_
 refine d7 hS1 rfl (.head _) (v := .int .i64 n.D) rfl ?_
 refine aU ?_
 refine a1l (a6m (p := p) (f := f) (q := q) h1) hS1 rfl (Spl.cons (Pk.there Pk.here) (Spl.cons (Pk.there Pk.here) (Spl.cons (Pk.there Pk.here) Spl.nil))) (fun r S L' hL hS => ?_)
 subst hL
 refine aU ?_
 refine d7 hS rfl (.tail _ (.tail _ (.tail _ (.head _)))) (v := .int .i64 n.Next) rfl ?_
 refine aU ?_
 refine E_stS hS rfl (xv := .int .i64 n.Next) rfl Rp.here rfl rfl (by first | exact Nat.le_of_ble_eq_true rfl | (simp; omega) | omega) (fun S hS => ?_)
 refine aU ?_
 (repeat (first | refine j3 ?_ | refine j4 ?_ | refine j5 rfl ?_ | refine f6 ?_ | refine f8 ?_ | refine j2 ?_))
 exact ⟨trivial, _, rfl, _, ⟨q, rfl, rfl, rfl⟩, hS.sub (List.Sublist.cons_cons _ (List.Sublist.cons_cons _ (List.Sublist.cons_cons _ (List.sublist_cons_self _ _))))⟩
end
end Go.Proofs.Ytnpemocpfdgaoaa

/- irun.run's frame: the walk. -/
namespace Go.Proofs.Ytnpemocpfdgaoaa
open Go Go.Ab
set_option maxRecDepth 20000
set_option maxHeartbeats 2000000
def c3R : FC := .reg [⟨(some 8), none, .op (.mv (.v .nili))⟩] []
def c3S : FC := .reg [⟨(some 14), none, .op (.mv (.t 0))⟩,  ⟨(some 15), none, .op (.nchk (.t 14))⟩,  ⟨(some 16), none, .op (.fad 0 (.t 15))⟩,  ⟨(some 17), none, .op (.load none (.t 16))⟩,  ⟨(some 18), none, .op (.mv (.t 2))⟩,  ⟨(some 19), none, .op (.iad none (some 8) (.t 17) (.t 18))⟩,  ⟨(some 9), none, .op (.mv (.t 19))⟩] []
def c3T : FC := .reg [⟨(some 20), none, .op (.mv (.t 0))⟩,  ⟨(some 21), none, .op (.mv (.t 9))⟩,  ⟨(some 22), none, .op (.mv (.t 9))⟩,  ⟨(some 23), none, .op (.nchk (.t 22))⟩,  ⟨(some 24), none, .op (.fad 1 (.t 23))⟩,  ⟨(some 25), none, .op (.load none (.t 24))⟩,  ⟨(some 26), none, .op (.len .sl (.t 25))⟩,  ⟨(some 27), none, .op (.mksl none 8 [(.int .u64 0)] (.t 26) (.t 26))⟩,  ⟨(some 28), none, .op (.mv (.t 9))⟩,  ⟨(some 29), none, .op (.nchk (.t 28))⟩,  ⟨(some 30), none, .op (.fad 2 (.t 29))⟩,  ⟨(some 31), none, .op (.load none (.t 30))⟩,  ⟨(some 32), none, .op (.mksl none 8 [(.int .u64 0)] (.t 31) (.t 31))⟩,  ⟨(some 33), none, .op (.mv (.t 9))⟩,  ⟨(some 34), none, .op (.nchk (.t 33))⟩,  ⟨(some 35), none, .op (.fad 7 (.t 34))⟩,  ⟨(some 36), none, .op (.load none (.t 35))⟩,  ⟨(some 37), none, .op (.mv (.t 1))⟩,  ⟨(some 38), none, .call 42 [(.t 37)]⟩,  ⟨(some 39), none, .op (.bin .none .sub (.t 38) (.v (.int .i64 1)))⟩,  ⟨(some 40), none, .op (.build [.nilp, .nilp, .nils, .nils, (.int .i64 0), (.int .i64 0), (.int .u64 0), (.int .u64 0), (.int .u64 0), (.int .u64 0), (.int .u64 0), (.int .u64 0), (.int .u64 0), (.int .u64 0), (.int .u64 0), (.int .u64 0), (.int .u64 0), (.int .u64 0), (.int .i64 0)] [(0, 1, (.t 20)), (1, 1, (.t 21)), (2, 1, (.t 27)), (3, 1, (.t 32)), (4, 1, (.t 36)), (18, 1, (.t 39))])⟩,  ⟨(some 41), none, .op (.box (.t 40))⟩,  ⟨(some 10), none, .op (.mv (.t 41))⟩] [(7, 11), (5, 12), (7, 12), (7, 16), (12, 16), (5, 18), (7, 18), (11, 18), (12, 18), (16, 18)]
def c3U : FC := .reg [⟨(some 42), none, .op (.mv (.t 9))⟩,  ⟨(some 43), none, .op (.nchk (.t 42))⟩,  ⟨(some 44), none, .op (.fad 0 (.t 43))⟩,  ⟨(some 45), none, .op (.load none (.t 44))⟩,  ⟨(some 46), none, .op (.len .sl (.t 45))⟩,  ⟨(some 47), none, .op (.mv (.v (.int .i64 0)))⟩] []
def c3V : FC := .reg [⟨(some 49), none, .op (.mv (.t 47))⟩,  ⟨(some 50), none, .op (.iad none none (.t 45) (.t 47))⟩,  ⟨(some 51), none, .op (.load none (.t 50))⟩,  ⟨(some 11), none, .op (.mv (.t 49))⟩,  ⟨(some 12), none, .op (.mv (.t 51))⟩] []
def c3W : FC := .reg [⟨(some 52), none, .op (.mv (.t 10))⟩,  ⟨(some 53), none, .op (.mv (.t 12))⟩,  ⟨(some 54), none, .op (.mv (.t 3))⟩,  ⟨(some 55), none, .op (.mv (.t 11))⟩,  ⟨(some 56), none, .op (.iad none none (.t 54) (.t 55))⟩,  ⟨(some 57), none, .op (.load none (.t 56))⟩,  ⟨(some 58), none, .call 71 [(.t 52), (.t 53), (.t 57)]⟩] []
def c3X : FC := .reg [⟨(some 59), none, .op (.mv (.t 9))⟩,  ⟨(some 60), none, .op (.nchk (.t 59))⟩,  ⟨(some 61), none, .op (.fad 3 (.t 60))⟩,  ⟨(some 62), none, .op (.load none (.t 61))⟩,  ⟨(some 63), none, .op (.mv (.t 11))⟩,  ⟨(some 64), none, .op (.iad none none (.t 62) (.t 63))⟩,  ⟨(some 65), none, .op (.load none (.t 64))⟩,  ⟨(some 13), none, .op (.mv (.t 65))⟩] []
def c3Y : FC := .reg [⟨(some 66), none, .op (.mv (.t 13))⟩,  ⟨(some 67), none, .op (.bin .none .geq (.t 66) (.v (.int .i64 0)))⟩] []
def c3Z : FC := .reg [⟨(some 68), none, .op (.mv (.t 10))⟩,  ⟨(some 69), none, .op (.nchk (.t 68))⟩,  ⟨(some 70), none, .op (.fad 3 (.t 69))⟩,  ⟨(some 71), none, .op (.load none (.t 70))⟩,  ⟨(some 72), none, .op (.mv (.t 13))⟩,  ⟨(some 73), none, .op (.mv (.t 3))⟩,  ⟨(some 74), none, .op (.mv (.t 11))⟩,  ⟨(some 75), none, .op (.iad none none (.t 73) (.t 74))⟩,  ⟨(some 76), none, .op (.load none (.t 75))⟩,  ⟨(some 77), none, .op (.iad none none (.t 71) (.t 72))⟩,  ⟨none, none, .op (.store 1 (.t 77) (.t 76))⟩] []
def b9H : FC := .cond (.t 67) c3Z FC.skip
def b9I : FC := .seq c3Y b9H
def b9J : FC := .seq c3X b9I
def b9K : FC := .seq c3W b9J
def b9L : FC := .seq c3V b9K
def b9M : FC := .loop (.seq (.reg [⟨(some 48), none, .op (.bin .none .lss (.t 47) (.t 46))⟩] []) (.seq (.cond (.t 48) .skip (.exit 0)) (.seq (.block 1 b9L) (.reg [⟨(some 78), none, .op (.bin .none .add (.t 47) (.v (.int .i64 1)))⟩,  ⟨(some 47), none, .op (.mv (.t 78))⟩] []))))
def b9N : FC := .block 0 b9M
def b9O : FC := .seq c3U b9N
def b9P : FC := .reg [⟨(some 79), none, .op (.mv (.t 10))⟩,  ⟨(some 80), none, .op (.mki 173 (.t 79))⟩,  ⟨(some 8), none, .op (.mv (.t 80))⟩] []
def b9Q : FC := .seq b9P FC.ret
def b9R : FC := .seq b9O b9Q
def b9S : FC := .seq c3T b9R
def b9T : FC := .seq c3S b9S
def b9U : FC := .seq c3R b9T
def c5R : FC := b9U
theorem c5S : Fn3 Try.prog 46 81 [(8, none)] c5R := ⟨_, _, Try.func46, rfl, rfl, rfl, by kernel_rfl⟩

def okG (g : b9) : Prop := g.Kinds.length < 1000000 ∧ g.Cells < 1000000 ∧ g.Params.length < 1000000 ∧ ∀ n ∈ g.Nodes, n.Args.length < 100000000
def b1h (p : GP) (g : b9) (ag : List Int) : Nat → List Int → SFr → Option SFr
 | _, [], f => some f
 | i, k :: ks, f => (ag[i]?).bind fun a => (f.set p k a).bind fun f => (g.Init[i]?).bind fun c => if 0 ≤ c then (if c < f.ce.length then b1h p g ag (i + 1) ks { f with ce := f.ce.set c.toNat a } else none) else b1h p g ag (i + 1) ks f
def a0T (p : GP) (k : Int) (ag : List Int) (n : Nat) : Option SFr := (u4 p.Funcs k).bind fun g => if 0 ≤ g.Cells then b1h p g ag 0 g.Params ⟨g, List.replicate g.Kinds.length 0, List.replicate g.Cells.toNat 0, g.Entry, (n : Int) - 1⟩ else none
theorem SFr.set_f {p : GP} {f f' : SFr} {k v : Int} (h : f.set p k v = some f') : f'.f = f.f ∧ f'.nu = f.nu ∧ f'.pc = f.pc ∧ f'.ce = f.ce ∧ f'.lo.length = f.lo.length := by
 unfold SFr.set at h
 split at h
 ·split at h
  ·cases h; exact ⟨rfl, rfl, rfl, rfl, by simp⟩
  ·cases h
 ·cases h; exact ⟨rfl, rfl, rfl, rfl, rfl⟩
theorem a9j {p : GP} {g : b9} {ag : List Int} : ∀ {ks : List Int} {i : Nat} {f f' : SFr}, b1h p g ag i ks f = some f' → f'.f = f.f ∧ f'.nu = f.nu ∧ f'.pc = f.pc ∧ f'.ce.length = f.ce.length ∧ f'.lo.length = f.lo.length
 | [], _, f, f', h => by cases h; exact ⟨rfl, rfl, rfl, rfl, rfl⟩
 | k :: ks, i, f, f', h => by
   unfold b1h at h
   obtain ⟨a, h1, h⟩ := Option.bind_eq_some_iff.1 h
   obtain ⟨f1, h2, h⟩ := Option.bind_eq_some_iff.1 h
   obtain ⟨c, h3, h⟩ := Option.bind_eq_some_iff.1 h
   obtain ⟨e1, e2, e3, e4, e5⟩ := SFr.set_f h2
   split at h
   ·split at h
    ·obtain ⟨k1, k2, k3, k4, k5⟩ := a9j h
     exact ⟨k1.trans e1, k2.trans e2, k3.trans e3, by rw [k4, List.length_set, e4], k5.trans e5⟩
    ·cases h
   ·obtain ⟨k1, k2, k3, k4, k5⟩ := a9j h
    exact ⟨k1.trans e1, k2.trans e2, k3.trans e3, by rw [k4, e4], k5.trans e5⟩
theorem a9k {p : GP} {k : Int} {ag : List Int} {n : Nat} {f : SFr} (h : a0T p k ag n = some f) : u4 p.Funcs k = some f.f ∧ f.nu = (n : Int) - 1 := by
 unfold a0T at h
 obtain ⟨g, h1, h2⟩ := Option.bind_eq_some_iff.1 h
 split at h2
 ·obtain ⟨e1, e2, _⟩ := a9j h2
  exact ⟨by rw [h1, e1], e2⟩
 ·cases h2
theorem a3g {p : GP} {k : Int} {ag : List Int} {n : Nat} {f : SFr} (hl : ∀ g ∈ p.Funcs, okG g) (h : a0T p k ag n = some f) : okG f.f :=
 hl _ (List.mem_of_getElem? (a0s (a9k h).1).2.2)
section
variable {a0 a1 a2 a3 a4 a5 a6 a7 a9 a10 : AV} {m ro rv n : Nat} {p : GP}
theorem b1i {k : Int} {ag : List Int} {f : SFr} (hv : a0T p k ag n = some f) (hn : n < 1000000000) (hl : okG f.f) :
  Tri Try.prog 46 [.cptr (GP.cells p) 0, .ptr m 0 0, .int .i64 k, .sl false 1 (ag.map (avI .u64))] [(m, 0, [a0, a1, a2, a3, a4, a5, a6, a7, .ref ro rv 0 n none, a9, a10])]
   (fun r L' => ∃ q, r = .iface 173 (.ptr q.x 0 0) ∧ L' = frL p f q ++ [(m, 0, [a0, a1, a2, a3, a4, a5, a6, a7, .ref ro rv 0 n none, a9, a10])]) := by
 have hgf := (a9k hv).1
 unfold a0T at hv
 rw [hgf] at hv
 replace hv : (if 0 ≤ f.f.Cells then _ else none) = some f := hv
 split at hv
 case isFalse => cases hv
 rename_i hC
 obtain ⟨l1, l2, l3, l4⟩ := hl
 have hw : IntKind.i64.wrap ((n : Int) - 1) = (n : Int) - 1 := by rw [a0B zO]
 generalize hg : f.f = g at *
 refine l6 mixed c5S zS [27, 32, 41] (fun R S hS => ?_)
 refine aU ?_
 refine p9 (esh := some 8) (f := b9.av) (ys := p.Funcs) (y := g) rfl rfl hgf ?_
 refine aS ?_
 refine c7 ?_
 refine j1 ?_
 refine g9 ?_
 refine a0Q ?_
 refine aU ?_
 refine b8n (f := avI .u64) (x := (0 : Int)) (n := g.Kinds.length) (n' := g.Kinds.length) hS (m9 .u64) rfl rfl rfl rfl zO (fun l S hS => ?_)
 refine aU ?_
 have hlm : m ≠ l := fun e => (List.nodup_cons.1 hS.2).1 (by rw [← e]; simp)
 refine b8n (f := avI .u64) (x := (0 : Int)) (n := g.Cells) (n' := g.Cells) hS (m9 .u64) rfl rfl rfl rfl zO (fun t S hS => ?_)
 refine aU ?_
 have htm : m ≠ t := fun e => (List.nodup_cons.1 hS.2).1 (by rw [← e]; simp)
 have htl : l ≠ t := fun e => (List.nodup_cons.1 hS.2).1 (by rw [← e]; simp)
 refine a2d a9h hS rfl (Spl.cons (Pk.there (Pk.there Pk.here)) Spl.nil) ?_
 refine aU ?_
 refine a1i hS rfl (xv := .agg (frC p ⟨g, List.replicate g.Kinds.length 0, List.replicate g.Cells.toNat 0, g.Entry, (n : Int) - 1⟩ ⟨0, l, t⟩)) (by
  show AV.agg [_, _, _, _, _, _, _, _, _, _, _, _, _, _, _, _, _, _, .int .i64 (IntKind.i64.wrap ((n : Int) - 1))] = _
  rw [hw]; unfold frC; dsimp only; rw [List.length_replicate, List.length_replicate]; rfl) rfl (fun x S hS => ?_)
 refine aU ?_
 refine And.intro (by simp [a0g, a3S, w9, a0h, hlm, Ne.symm hlm, htm, Ne.symm htm, htl, Ne.symm htl]) ?_
 refine aU ?_
 have hS0 : Sep S (frL p ⟨g, List.replicate g.Kinds.length 0, List.replicate g.Cells.toNat 0, g.Entry, (n : Int) - 1⟩ ⟨x, l, t⟩ ++ ((m, 0, [a0, a1, a2, a3, a4, a5, a6, a7, .ref ro rv 0 n none, a9, a10]) :: R)) := by
  refine hS.perm (Spl.cons Pk.here (Spl.cons (Pk.there Pk.here) (Spl.cons Pk.here (.refl _))))
 refine b1U g.Params.length (fun s : SFr => [(3, .sl false 1 (ag.map (avI .u64))), (9, .cptr (b9.av g).cells 0), (45, .sl false 1 (g.Params.map (avI .i64))), (10, .ptr x 0 0)]) (fun s => frL p s ⟨x, l, t⟩ ++ ((m, 0, [a0, a1, a2, a3, a4, a5, a6, a7, .ref ro rv 0 n none, a9, a10]) :: R))
  (fun i s => b1h p g ag i (g.Params.drop i) s = some f) _ hS0 hv (a2a ⟨.refl _, .refl _, .refl _, .refl _, .refl _, .refl _, trivial⟩) zO zD zD (fun _ => ⟨rfl, rfl, rfl, rfl⟩) (fun i s S hi hI hS => ?_) (fun s fr' S hI hS hw => ?_)
 ·have hk : g.Params[i]? = some g.Params[i] := List.getElem?_eq_getElem hi
  rw [List.drop_eq_getElem_cons hi] at hI
  unfold b1h at hI
  obtain ⟨a, h1, hI⟩ := Option.bind_eq_some_iff.1 hI
  obtain ⟨f1, h2, hI⟩ := Option.bind_eq_some_iff.1 hI
  obtain ⟨c, h3, hI⟩ := Option.bind_eq_some_iff.1 hI
  refine aU ?_
  refine p9 (esh := none) (f := avI .i64) (ys := g.Params) (y := g.Params[i]) (n := (i : Int)) rfl rfl (by unfold u4; rw [if_pos zO]; exact hk) ?_
  refine aU ?_
  refine p9 (esh := none) (f := avI .u64) (ys := ag) (y := a) (n := (i : Int)) rfl rfl (by unfold u4; rw [if_pos zO]; exact h1) ?_
  refine aU ?_
  refine a1l (a6m (p := p) (q := ⟨x, l, t⟩) h2) hS rfl (Spl.cons Pk.here (Spl.cons Pk.here (Spl.cons Pk.here Spl.nil))) (fun r S L' hL hS => ?_)
  subst hL
  refine aU ?_
  refine p9 (esh := none) (f := avI .i64) (ys := g.Init) (y := c) (n := (i : Int)) rfl rfl (by unfold u4; rw [if_pos zO]; exact h3) ?_
  refine aU ?_
  split at hI
  ·rename_i hc
   split at hI
   ·rename_i hc2
    obtain ⟨w, hw2⟩ : ∃ w, f1.ce[c.toNat]? = some w := ⟨_, List.getElem?_eq_getElem zO⟩
    refine f9 (t := true) (by show AV.bool (decide (c ≥ 0)) = _; rw [decide_eq_true hc]) (fun _ => ?_) (fun h => by cases h)
    refine aU ?_
    refine d7 hS rfl (.head _) (v := .ref t 0 0 f1.ce.length none) rfl ?_
    refine aU ?_
    refine p9 (esh := none) (f := avI .u64) (ys := ag) (y := a) (n := (i : Int)) rfl rfl (by unfold u4; rw [if_pos zO]; exact h1) ?_
    refine aU ?_
    refine v7 rfl rfl c.toNat zO zO ?_
    refine a7d (y' := a) (l := f1.ce) hS (m9 .u64) rfl (xv := .int .u64 a) rfl (n := c.toNat) (fo := 0) (y := w) (by simp [f5]) hw2 (Rp.there (Rp.there Rp.here)) rfl rfl (by simp [f5]) rfl (fun S hS => ?_)
    refine aU ?_
    (repeat (first | refine j3 ?_ | refine j4 ?_ | refine j5 rfl ?_ | refine f6 ?_ | refine f8 ?_ | refine j2 ?_))
    refine R_n { f1 with ce := f1.ce.set c.toNat a } hI ?_ (a2a ⟨.refl _, .refl _, .refl _, .refl _, .refl _, .refl _, trivial⟩)
    show Sep S ((x, 0, [_, _, _, .ref t 0 0 (f1.ce.set c.toNat a).length none, _, _, _, _, _, _, _, _, _, _, _, _, _, _, _]) :: _)
    rw [List.length_set]
    exact hS
   ·cases hI
  ·rename_i hc
   refine f9 (t := false) (by show AV.bool (decide (c ≥ 0)) = _; rw [decide_eq_false hc]) (fun h => by cases h) (fun _ => ?_)
   refine aU ?_
   (repeat (first | refine j3 ?_ | refine j4 ?_ | refine j5 rfl ?_ | refine f6 ?_ | refine f8 ?_ | refine j2 ?_))
   exact R_n f1 hI hS (a2a ⟨.refl _, .refl _, .refl _, .refl _, .refl _, .refl _, trivial⟩)
 ·rw [List.drop_length] at hI
  cases hI
  refine a3v hw ?_
  refine aU ?_
  refine g8 ?_
  (repeat (first | refine j3 ?_ | refine j4 ?_ | refine j5 rfl ?_ | refine f6 ?_ | refine f8 ?_ | refine j2 ?_))
  exact ⟨trivial, _, rfl, _, ⟨⟨x, l, t⟩, rfl, rfl⟩, hS⟩
end
end Go.Proofs.Ytnpemocpfdgaoaa

/- core.M's push: the walk. -/
namespace Go.Proofs.Ytnpemocpfdgaoaa
open Go Go.Ab
set_option maxRecDepth 20000
set_option maxHeartbeats 2000000
def c4a : FC := .reg [⟨(some 9), none, .op (.mv (.t 3))⟩,  ⟨(some 10), none, .op (.build [.nili, (.int .i64 0), .nils, (.int .u64 0)] [(1, 1, (.t 9))])⟩,  ⟨(some 11), none, .op (.box (.t 10))⟩,  ⟨(some 8), none, .op (.mv (.t 11))⟩] []
def c4b : FC := .reg [⟨(some 12), none, .op (.mv (.t 0))⟩,  ⟨(some 13), none, .op (.mv (.t 0))⟩,  ⟨(some 14), none, .op (.nchk (.t 13))⟩,  ⟨(some 15), none, .op (.fad 8 (.t 14))⟩,  ⟨(some 16), none, .op (.load none (.t 15))⟩,  ⟨(some 17), none, .op (.mv (.t 8))⟩,  ⟨(some 18), none, .op (.bsl none [.nilp] 1 [(0, 1, (.t 17))])⟩,  ⟨(some 19), none, .op (.app none 8 (.t 16) (.t 18))⟩,  ⟨(some 20), none, .op (.nchk (.t 12))⟩,  ⟨(some 21), none, .op (.fad 8 (.t 20))⟩,  ⟨none, none, .op (.store 1 (.t 21) (.t 19))⟩] []
def c4c : FC := .reg [⟨(some 22), none, .op (.mv (.t 0))⟩,  ⟨(some 23), none, .op (.mv (.t 0))⟩,  ⟨(some 24), none, .op (.nchk (.t 23))⟩,  ⟨(some 25), none, .op (.fad 5 (.t 24))⟩,  ⟨(some 26), none, .op (.load none (.t 25))⟩,  ⟨(some 27), none, .op (.mv (.t 0))⟩,  ⟨(some 28), none, .op (.nchk (.t 27))⟩,  ⟨(some 29), none, .op (.fad 8 (.t 28))⟩,  ⟨(some 30), none, .op (.load none (.t 29))⟩,  ⟨(some 31), none, .op (.len .sl (.t 30))⟩,  ⟨(some 32), none, .op (.mn true (.t 26) (.t 31))⟩,  ⟨(some 33), none, .op (.nchk (.t 22))⟩,  ⟨(some 34), none, .op (.fad 5 (.t 33))⟩,  ⟨none, none, .op (.store 1 (.t 34) (.t 32))⟩] []
def c4d : FC := .reg [⟨(some 35), none, .op (.mv (.t 8))⟩,  ⟨(some 36), none, .op (.mv (.t 0))⟩,  ⟨(some 37), none, .op (.nchk (.t 36))⟩,  ⟨(some 38), none, .op (.fad 1 (.t 37))⟩,  ⟨(some 39), none, .op (.load none (.t 38))⟩,  ⟨(some 40), none, .op (.mv (.t 0))⟩,  ⟨(some 41), none, .op (.mv (.t 1))⟩,  ⟨(some 42), none, .op (.mv (.t 2))⟩,  ⟨(some 43), none, .callv (.t 39) [(.t 40), (.t 41), (.t 42)]⟩,  ⟨(some 44), none, .op (.nchk (.t 35))⟩,  ⟨(some 45), none, .op (.fad 0 (.t 44))⟩,  ⟨none, none, .op (.store 1 (.t 45) (.t 43))⟩] []
def c4e : FC := .seq c4c c4d
def c4f : FC := .seq c4b c4e
def c4g : FC := .seq c4a c4f
def c5T : FC := c4g
theorem c5U : Fn3 Try.prog 98 46 [] c5T := ⟨_, _, Try.func98, rfl, rfl, rfl, by kernel_rfl⟩

def c4h : FC := .reg [⟨(some 6), none, .op (.mv (.t 0))⟩,  ⟨(some 7), none, .op (.mv (.t 1))⟩,  ⟨(some 8), none, .op (.mv (.t 2))⟩,  ⟨(some 9), none, .call 98 [(.t 6), (.t 7), (.t 8), (.v (.int .i64 0))]⟩] []
def c5V : FC := c4h
theorem c5W : Fn3 Try.prog 67 10 [] c5V := ⟨_, _, Try.func67, rfl, rfl, rfl, by kernel_rfl⟩

section
variable {a0 a2 a3 a4 a6 a7 a9 a10 : AV} {m ro rv n : Nat} {p : GP} {rc rj : List AV} {dep w k : Int} {ag : List Int} {f : SFr}
theorem a5C (hv : a0T p k ag (n + 1) = some f) (hn : n < 100000000) (hl : okG f.f) (hrc : rc.length = n) (hd : 0 ≤ dep ∧ dep < 1000000000) :
  Tri Try.prog 98 [.ptr m 0 0, .int .i64 k, .sl false 1 (ag.map (avI .u64)), .int .i64 w] [(m, 0, [a0, mkA p, a2, a3, a4, .int .i64 dep, a6, a7, .ref ro rv 0 n none, a9, a10]), (ro, rv, rc ++ rj)]
   (fun r L' => ∃ s d q, L' = [(m, 0, [a0, mkA p, a2, a3, a4, .int .i64 (max dep ((n : Int) + 1)), a6, a7, .ref ro (rv + 1) 0 (n + 1) none, a9, a10]), (ro, rv + 1, rc ++ [.ptr s 0 0])] ++ a0c p ⟨⟨f, w, [], 0⟩, s, d, 0, [], q⟩) := by
 refine l6 mixed c5U zS [11] (fun R S hS => ?_)
 refine aU ?_
 refine a1i hS rfl (xv := .agg [.nili, .int .i64 w, .nils, .int .u64 0]) rfl rfl (fun s S hS => ?_)
 refine aS ?_
 refine c7 ?_
 refine b8r 2 (some 2) (Lf := fun o' => (s, 0, [.nili, .int .i64 w, .ref o' 0 0 0 (some 2), .int .u64 0]) :: (m, 0, [a0, mkA p, a2, a3, a4, .int .i64 dep, a6, a7, .ref ro rv 0 n none, a9, a10]) :: (ro, rv, rc ++ rj) :: R) hS (fun o' => Rp.here) rfl (fun d S hS => ?_)
 refine aU ?_
 refine d7 hS rfl (.tail _ (.tail _ (.head _))) (v := .ref ro rv 0 n none) rfl ?_
 refine aU ?_
 refine c3u (o := ro) (ver := rv) (n := n) (m := 1) (cs := rc) (j := rj) (ys := [.ptr s 0 0]) hS rfl (rdx := []) rfl (Rp.there (Rp.there (Rp.there Rp.here))) (by simp [f5, hrc]) rfl zO (fun S hS => ?_)
 refine aU ?_
 refine E_stS hS rfl (xv := .ref ro (rv + 1) 0 (n + 1) none) rfl (Rp.there (Rp.there Rp.here)) rfl rfl (by first | exact Nat.le_of_ble_eq_true rfl | (simp; omega) | omega) (fun S hS => ?_)
 refine aU ?_
 refine d7 hS rfl (.tail _ (.tail _ (.head _))) (v := .int .i64 dep) rfl ?_
 refine aU ?_
 refine d7 hS rfl (.tail _ (.tail _ (.head _))) (v := .ref ro (rv + 1) 0 (n + 1) none) rfl ?_
 refine aU ?_
 have hmx : (if ((n + 1 : Nat) : Int) > dep then ((n + 1 : Nat) : Int) else dep) = max dep ((n : Int) + 1) := by split <;> omega
 refine E_stS hS rfl (xv := .int .i64 (max dep ((n : Int) + 1))) (by show AV.int .i64 (if true = true then if ((n + 1 : Nat) : Int) > dep then ((n + 1 : Nat) : Int) else dep else _) = _; rw [if_pos rfl, hmx]) (Rp.there (Rp.there Rp.here)) rfl rfl (by first | exact Nat.le_of_ble_eq_true rfl | (simp; omega) | omega) (fun S hS => ?_)
 refine aU ?_
 refine d7 hS rfl (.tail _ (.tail _ (.head _))) (v := mkA p) rfl ?_
 refine aU ?_
 refine b1c (b1i (m := m) (p := p) (a0 := a0) (a1 := mkA p) (a2 := a2) (a3 := a3) (a4 := a4) (a5 := .int .i64 (max dep ((n : Int) + 1))) (a6 := a6) (a7 := a7) (a9 := a9) (a10 := a10) (ro := ro) (rv := rv + 1) (n := n + 1) (k := k) (ag := ag) hv zO hl) hS rfl rfl rfl (Spl.cons (Pk.there (Pk.there Pk.here)) Spl.nil) (fun r S L' hL hS => ?_)
 obtain ⟨q, rfl, rfl⟩ := hL
 refine aU ?_
 refine E_stS hS rfl (xv := .iface 173 (.ptr q.x 0 0)) rfl (Rp.there (Rp.there (Rp.there (Rp.there (Rp.there Rp.here))))) rfl rfl (by first | exact Nat.le_of_ble_eq_true rfl | (simp; omega) | omega) (fun S hS => ?_)
 refine aU ?_
 (repeat (first | refine j3 ?_ | refine j4 ?_ | refine j5 rfl ?_ | refine f6 ?_ | refine f8 ?_ | refine j2 ?_))
 refine ⟨trivial, _, rfl, _, ⟨s, d, q, rfl⟩, ?_⟩
 have hS2 : Sep S ((q.x, 0, frC p f q) :: (q.l, 0, flat (avI .u64) f.lo) :: (q.t, 0, flat (avI .u64) f.ce) :: (m, 0, [a0, mkA p, a2, a3, a4, .int .i64 (max dep ((n : Int) + 1)), a6, a7, .ref ro (rv + 1) 0 (n + 1) none, a9, a10]) :: (d, 0, []) :: (s, 0, [.iface 173 (.ptr q.x 0 0), .int .i64 w, .ref d 0 0 0 (some 2), .int .u64 0]) :: (ro, rv + 1, rc ++ [.ptr s 0 0]) :: R) := hS
 exact hS2.perm (Spl.cons (Pk.there (Pk.there (Pk.there Pk.here))) (Spl.cons (Pk.there (Pk.there (Pk.there (Pk.there (Pk.there Pk.here))))) (Spl.cons (Pk.there (Pk.there (Pk.there (Pk.there Pk.here)))) (Spl.cons (Pk.there (Pk.there (Pk.there Pk.here))) (.refl _)))))
theorem a5D (hv : a0T p k ag (n + 1) = some f) (hn : n < 100000000) (hl : okG f.f) (hrc : rc.length = n) (hd : 0 ≤ dep ∧ dep < 1000000000) :
  Tri Try.prog 67 [.ptr m 0 0, .int .i64 k, .sl false 1 (ag.map (avI .u64))] [(m, 0, [a0, mkA p, a2, a3, a4, .int .i64 dep, a6, a7, .ref ro rv 0 n none, a9, a10]), (ro, rv, rc ++ rj)]
   (fun r L' => ∃ s d q, L' = [(m, 0, [a0, mkA p, a2, a3, a4, .int .i64 (max dep ((n : Int) + 1)), a6, a7, .ref ro (rv + 1) 0 (n + 1) none, a9, a10]), (ro, rv + 1, rc ++ [.ptr s 0 0])] ++ a0c p ⟨⟨f, 0, [], 0⟩, s, d, 0, [], q⟩) := by
 refine l6 mixed c5W zS [] (fun R S hS => ?_)
 refine d6 ?_
 refine aS ?_
 refine a1l (a5C (w := 0) hv hn hl hrc hd) hS rfl (Spl.cons Pk.here (Spl.cons Pk.here Spl.nil)) (fun r S L' hL hS => ?_)
 refine aU ?_
 (repeat (first | refine j3 ?_ | refine j4 ?_ | refine j5 rfl ?_ | refine f6 ?_ | refine f8 ?_ | refine j2 ?_))
 exact ⟨trivial, _, rfl, _, hL, hS⟩
end
end Go.Proofs.Ytnpemocpfdgaoaa

/- core.M's next, Defer: the walks. -/
namespace Go.Ab
theorem a2R {a b : List AV} {x : AV} (hx : x.one = true) {i : Nat} (hi : i = a.length) : a0x none (a ++ x :: b) (0 + i * f5 none) = some x := by
 subst hi
 rw [show 0 + a.length * f5 none = a.length by simp [f5]]
 unfold a0x
 simp
theorem b1j {m r o s d : It} {A R : List It} : List.Perm (m :: r :: (A ++ (o :: s :: d :: R))) (o :: ((([m, r] ++ [s, d]) ++ A) ++ R)) :=
 Spl.cons (Pk.there (Pk.there (Pk.skip Pk.here))) (Spl.cons Pk.here (Spl.cons Pk.here (Spl.cons (Pk.skip Pk.here) (Spl.cons (Pk.skip Pk.here) (.refl _)))))
theorem a0I {n : Nat} (h : n < 1000000000) : IntKind.i64.wrap (((n + 1 : Nat) : Int) - 1) = (n : Int) := by rw [a0B zO]; omega
end Go.Ab
namespace Go.Proofs.Ytnpemocpfdgaoaa
open Go Go.Ab
set_option maxRecDepth 20000
set_option maxHeartbeats 2000000
def b9V : FC := .reg [⟨(some 4), none, .op (.mv (.v (.bool false)))⟩] []
def b9W : FC := .reg [⟨(some 8), none, .op (.mv (.t 0))⟩,  ⟨(some 9), none, .op (.nchk (.t 8))⟩,  ⟨(some 10), none, .op (.fad 8 (.t 9))⟩,  ⟨(some 11), none, .op (.load none (.t 10))⟩,  ⟨(some 12), none, .op (.mv (.t 0))⟩,  ⟨(some 13), none, .op (.nchk (.t 12))⟩,  ⟨(some 14), none, .op (.fad 8 (.t 13))⟩,  ⟨(some 15), none, .op (.load none (.t 14))⟩,  ⟨(some 16), none, .op (.len .sl (.t 15))⟩,  ⟨(some 17), none, .op (.bin .none .sub (.t 16) (.v (.int .i64 1)))⟩,  ⟨(some 18), none, .op (.iad none none (.t 11) (.t 17))⟩,  ⟨(some 19), none, .op (.load none (.t 18))⟩,  ⟨(some 5), none, .op (.mv (.t 19))⟩] []
def b9X : FC := .reg [⟨(some 20), none, .op (.mv (.t 5))⟩,  ⟨(some 21), none, .op (.nchk (.t 20))⟩,  ⟨(some 22), none, .op (.fad 2 (.t 21))⟩,  ⟨(some 23), none, .op (.load none (.t 22))⟩,  ⟨(some 24), none, .op (.len .sl (.t 23))⟩,  ⟨(some 25), none, .op (.bin .none .sub (.t 24) (.v (.int .i64 1)))⟩,  ⟨(some 6), none, .op (.mv (.t 25))⟩] []
def b9Y : FC := .reg [⟨(some 26), none, .op (.mv (.t 6))⟩,  ⟨(some 27), none, .op (.bin .none .lss (.t 26) (.v (.int .i64 0)))⟩] []
def b9Z : FC := .reg [⟨(some 4), none, .op (.mv (.v (.bool false)))⟩] []
def c0a : FC := .seq b9Z FC.ret
def c0b : FC := .cond (.t 27) c0a FC.skip
def c0c : FC := .seq b9Y c0b
def c0d : FC := .reg [⟨(some 28), none, .op (.mv (.t 5))⟩,  ⟨(some 29), none, .op (.nchk (.t 28))⟩,  ⟨(some 30), none, .op (.fad 2 (.t 29))⟩,  ⟨(some 31), none, .op (.load none (.t 30))⟩,  ⟨(some 32), none, .op (.mv (.t 6))⟩,  ⟨(some 33), none, .op (.iad none (some 2) (.t 31) (.t 32))⟩,  ⟨(some 34), none, .op (.load (some 2) (.t 33))⟩,  ⟨(some 7), none, .op (.new [(.int .i64 0), .nils])⟩,  ⟨none, none, .op (.store 2 (.t 7) (.t 34))⟩] []
def b3t : FC := .reg [⟨(some 35), none, .op (.mv (.t 5))⟩,  ⟨(some 36), none, .op (.mv (.t 5))⟩,  ⟨(some 37), none, .op (.nchk (.t 36))⟩,  ⟨(some 38), none, .op (.fad 2 (.t 37))⟩,  ⟨(some 39), none, .op (.load none (.t 38))⟩,  ⟨(some 40), none, .op (.mv (.t 6))⟩,  ⟨(some 41), none, .op (.slc (some 2) (.t 39) none (some (.t 40)) none)⟩,  ⟨(some 42), none, .op (.nchk (.t 35))⟩,  ⟨(some 43), none, .op (.fad 2 (.t 42))⟩,  ⟨none, none, .op (.store 1 (.t 43) (.t 41))⟩] []
def b3u : FC := .reg [⟨(some 44), none, .op (.mv (.t 0))⟩,  ⟨(some 45), none, .op (.nchk (.t 44))⟩,  ⟨(some 46), none, .op (.fad 10 (.t 45))⟩,  ⟨(some 47), none, .op (.load none (.t 46))⟩,  ⟨(some 48), none, .op (.bin .none .sub (.t 47) (.v (.int .i64 1)))⟩,  ⟨(some 49), none, .op (.nchk (.t 44))⟩,  ⟨(some 50), none, .op (.fad 10 (.t 49))⟩,  ⟨none, none, .op (.store 1 (.t 50) (.t 48))⟩] []
def b3v : FC := .reg [⟨(some 51), none, .op (.mv (.t 0))⟩,  ⟨(some 52), none, .op (.fad 0 (.t 7))⟩,  ⟨(some 53), none, .op (.load none (.t 52))⟩,  ⟨(some 54), none, .op (.fad 1 (.t 7))⟩,  ⟨(some 55), none, .op (.load none (.t 54))⟩,  ⟨(some 56), none, .op (.mv (.t 1))⟩,  ⟨(some 57), none, .call 98 [(.t 51), (.t 53), (.t 55), (.t 56)]⟩] []
def b3w : FC := .reg [⟨(some 4), none, .op (.mv (.v (.bool true)))⟩] []
def b3x : FC := .seq b3w FC.ret
def b3y : FC := .seq b3v b3x
def b3z : FC := .seq b3u b3y
def b3A : FC := .seq b3t b3z
def b3B : FC := .seq c0d b3A
def b3C : FC := .seq c0c b3B
def b3D : FC := .seq b9X b3C
def b3E : FC := .seq b9W b3D
def b3F : FC := .seq b9V b3E
def c4i : FC := b3F
theorem c0e : Fn3 Try.prog 157 58 [(4, none)] c4i := ⟨_, _, Try.func157, rfl, rfl, rfl, by kernel_rfl⟩

section
variable {a0 a2 a3 a4 a6 a7 a9 a10 : AV} {m ro rv n : Nat} {p : GP} {rc rj : List AV} {dep w live : Int} {z : Row} {f : SFr}
theorem a5E (hz : z.df = []) (hn : n < 100000000) (hrc : rc.length = n) :
  Tri Try.prog 157 [.ptr m 0 0, .int .i64 w] ((m, 0, [a0, mkA p, a2, a3, a4, .int .i64 dep, a6, a7, .ref ro rv 0 (n + 1) none, a9, a10]) :: (ro, rv, rc ++ (.ptr z.s 0 0 :: rj)) :: slL z)
   (fun r L' => r = .bool false ∧ L' = (m, 0, [a0, mkA p, a2, a3, a4, .int .i64 dep, a6, a7, .ref ro rv 0 (n + 1) none, a9, a10]) :: (ro, rv, rc ++ (.ptr z.s 0 0 :: rj)) :: slL z) := by
 refine l6 mixed c0e zS [7] (fun R S hS => ?_)
 refine aU ?_
 refine d7 hS rfl (.head _) (v := .ref ro rv 0 (n + 1) none) rfl ?_
 refine aU ?_
 refine d7 hS rfl (.head _) (v := .ref ro rv 0 (n + 1) none) rfl ?_
 refine aU ?_
 refine v7 rfl rfl n (a0I zO) zO ?_
 refine d7 hS rfl (.tail _ (.head _)) (v := .ptr z.s 0 0) (a2R rfl hrc.symm) ?_
 refine aU ?_
 refine d7 hS rfl (.tail _ (.tail _ (.head _))) (v := .ref z.d z.dv 0 z.df.length (some 2)) rfl ?_
 refine aU ?_
 refine f9 (t := true) (by show AV.bool (decide (IntKind.i64.wrap ((z.df.length : Int) - 1) < 0)) = _; rw [hz]; rfl) (fun _ => ?_) (fun h => by cases h)
 refine aU ?_
 refine g8 ?_
 (repeat (first | refine j3 ?_ | refine j4 ?_ | refine j5 rfl ?_ | refine f6 ?_ | refine f8 ?_ | refine j2 ?_))
 exact ⟨trivial, _, rfl, _, ⟨rfl, rfl⟩, hS⟩
theorem a5F {x : a0S} {df : List a0S} (hz : z.df = x :: df) (hv : a0T p x.f x.args (n + 2) = some f) (hn : n < 10000000) (hl : okG f.f) (hrc : rc.length = n) (hd : 0 ≤ dep ∧ dep < 1000000000) (hdf : df.length < 100000000) (hlv : 0 < live ∧ live < 1000000000) :
  Tri Try.prog 157 [.ptr m 0 0, .int .i64 w] ((m, 0, [a0, mkA p, a2, a3, a4, .int .i64 dep, a6, a7, .ref ro rv 0 (n + 1) none, a9, .int .i64 live]) :: (ro, rv, rc ++ (.ptr z.s 0 0 :: rj)) :: slL z)
   (fun r L' => r = .bool true ∧ ∃ s d q, L' = ([(m, 0, [a0, mkA p, a2, a3, a4, .int .i64 (max dep ((n : Int) + 2)), a6, a7, .ref ro (rv + 1) 0 (n + 2) none, a9, .int .i64 (live - 1)]), (ro, rv + 1, rc ++ [.ptr z.s 0 0, .ptr s 0 0])] ++ slL { z with df := df, dj := x.cells ++ z.dj }) ++ a0c p ⟨⟨f, w, [], 0⟩, s, d, 0, [], q⟩) := by
 have hx : z.df.reverse[df.length]? = some x := by rw [hz, List.reverse_cons, List.getElem?_append_right zS]; simp
 have hlen : z.df.length = df.length + 1 := by rw [hz]; rfl
 refine l6 mixed c0e zS [7] (fun R S hS => ?_)
 refine aU ?_
 refine d7 hS rfl (.head _) (v := .ref ro rv 0 (n + 1) none) rfl ?_
 refine aU ?_
 refine d7 hS rfl (.head _) (v := .ref ro rv 0 (n + 1) none) rfl ?_
 refine aU ?_
 refine v7 rfl rfl n (a0I zO) zO ?_
 refine d7 hS rfl (.tail _ (.head _)) (v := .ptr z.s 0 0) (a2R rfl hrc.symm) ?_
 refine aU ?_
 refine d7 hS rfl (.tail _ (.tail _ (.head _))) (v := .ref z.d z.dv 0 (df.length + 1) (some 2)) (by rw [← hlen]; rfl) ?_
 refine aU ?_
 refine f9 (t := false) (by show AV.bool (decide (IntKind.i64.wrap (((df.length + 1 : Nat) : Int) - 1) < 0)) = _; rw [a0I zO, decide_eq_false zO]) (fun h => by cases h) (fun _ => ?_)
 refine aU ?_
 refine d7 hS rfl (.tail _ (.tail _ (.head _))) (v := .ref z.d z.dv 0 (df.length + 1) (some 2)) (by rw [← hlen]; rfl) ?_
 refine aU ?_
 refine v7 rfl rfl df.length (a0I zO) zO ?_
 refine a7E hS a0S.enc rfl (.tail _ (.tail _ (.tail _ (.head _)))) (n := df.length) (fo := 0) (y := x) zS hx (v := x.av) rfl ?_
 refine b1b hS rfl (fun o S hS => ?_)
 refine E_stS hS rfl (xv := x.av) rfl Rp.here rfl rfl (by first | exact Nat.le_of_ble_eq_true rfl | (simp; omega) | omega) (fun S hS => ?_)
 refine aU ?_
 refine d7 hS rfl (.tail _ (.tail _ (.tail _ (.head _)))) (v := .ref z.d z.dv 0 (df.length + 1) (some 2)) (by rw [← hlen]; rfl) ?_
 refine aU ?_
 refine a5x (a := 0) (b := df.length) rfl rfl (by show hiN (df.length + 1) (some (.int .i64 (IntKind.i64.wrap (((df.length + 1 : Nat) : Int) - 1)))) = _; rw [a0I zO, a2G zO]; simp) ⟨by omega, by omega, .inl rfl⟩ ?_
 refine aU ?_
 refine E_stS hS rfl (xv := .ref z.d z.dv 0 df.length (some 2)) (by show AV.ref z.d z.dv (0 + 0 * f5 (some 2)) (df.length - 0) (some 2) = _; simp) (Rp.there (Rp.there (Rp.there Rp.here))) rfl rfl (by first | exact Nat.le_of_ble_eq_true rfl | (simp; omega) | omega) (fun S hS => ?_)
 refine aU ?_
 refine d7 hS rfl (.tail _ (.head _)) (v := .int .i64 live) rfl ?_
 refine aU ?_
 refine E_stS hS rfl (xv := .int .i64 (live - 1)) (by show AV.int .i64 (IntKind.i64.wrap (live - 1)) = _; rw [a0B zO]) (Rp.there Rp.here) rfl rfl (by first | exact Nat.le_of_ble_eq_true rfl | (simp; omega) | omega) (fun S hS => ?_)
 refine aU ?_
 refine d7 hS rfl (.head _) (v := .int .i64 x.f) rfl ?_
 refine aU ?_
 refine d7 hS rfl (.head _) (v := .sl false 1 (x.args.map (avI .u64))) rfl ?_
 refine aU ?_
 have hS1 : Sep S ((o, 0, x.cells) :: (m, 0, [a0, mkA p, a2, a3, a4, .int .i64 dep, a6, a7, .ref ro rv 0 (n + 1) none, a9, .int .i64 (live - 1)]) :: (ro, rv, (rc ++ [.ptr z.s 0 0]) ++ rj) :: (z.s, 0, [.iface 173 (.ptr z.q.x 0 0), .int .i64 z.why, .ref z.d z.dv 0 df.length (some 2), .int .u64 z.ret]) :: (z.d, z.dv, flat a0S.av z.df.reverse ++ z.dj) :: R) := by rw [List.append_assoc]; exact hS
 refine a1l (a5C (m := m) (a0 := a0) (p := p) (a2 := a2) (a3 := a3) (a4 := a4) (dep := dep) (a6 := a6) (a7 := a7) (a9 := a9) (a10 := .int .i64 (live - 1)) (n := n + 1) (ro := ro) (rv := rv) (rc := rc ++ [.ptr z.s 0 0]) (rj := rj) (w := w) hv zO hl (by simp [hrc]) hd) hS1 rfl (Spl.cons (Pk.there Pk.here) (Spl.cons (Pk.there Pk.here) Spl.nil)) (fun r S L' hL hS => ?_)
 obtain ⟨s, d, q, rfl⟩ := hL
 refine aU ?_
 refine g8 ?_
 (repeat (first | refine j3 ?_ | refine j4 ?_ | refine j5 rfl ?_ | refine f6 ?_ | refine f8 ?_ | refine j2 ?_))
 refine ⟨trivial, _, rfl, _, ⟨rfl, s, d, q, rfl⟩, ?_⟩
 have e1 : max dep (((n + 1 : Nat) : Int) + 1) = max dep ((n : Int) + 2) := by omega
 have e2 : flat a0S.av z.df.reverse ++ z.dj = flat a0S.av df.reverse ++ (x.cells ++ z.dj) := by rw [hz, List.reverse_cons, v8, List.append_assoc]; rfl
 rw [e1, e2, List.append_assoc rc] at hS
 have hS3 := hS.perm (b1j (A := a0c p ⟨⟨f, w, [], 0⟩, s, d, 0, [], q⟩) (R := R) : List.Perm (_ :: _ :: (_ ++ (_ :: _ :: _ :: R))) _)
 exact hS3.sub (List.sublist_cons_self _ _)
end
end Go.Proofs.Ytnpemocpfdgaoaa

/- core.M's Defer, Recover, Panic: the walks. -/
namespace Go.Proofs.Ytnpemocpfdgaoaa
open Go Go.Ab
set_option maxRecDepth 20000
set_option maxHeartbeats 2000000
def c0f : FC := .reg [⟨(some 7), none, .op (.mv (.t 0))⟩,  ⟨(some 8), none, .op (.nchk (.t 7))⟩,  ⟨(some 9), none, .op (.fad 8 (.t 8))⟩,  ⟨(some 10), none, .op (.load none (.t 9))⟩,  ⟨(some 11), none, .op (.mv (.t 0))⟩,  ⟨(some 12), none, .op (.nchk (.t 11))⟩,  ⟨(some 13), none, .op (.fad 8 (.t 12))⟩,  ⟨(some 14), none, .op (.load none (.t 13))⟩,  ⟨(some 15), none, .op (.len .sl (.t 14))⟩,  ⟨(some 16), none, .op (.bin .none .sub (.t 15) (.v (.int .i64 1)))⟩,  ⟨(some 17), none, .op (.iad none none (.t 10) (.t 16))⟩,  ⟨(some 18), none, .op (.load none (.t 17))⟩,  ⟨(some 6), none, .op (.mv (.t 18))⟩] []
def c0g : FC := .reg [⟨(some 19), none, .op (.mv (.t 6))⟩,  ⟨(some 20), none, .op (.mv (.t 6))⟩,  ⟨(some 21), none, .op (.nchk (.t 20))⟩,  ⟨(some 22), none, .op (.fad 2 (.t 21))⟩,  ⟨(some 23), none, .op (.load none (.t 22))⟩,  ⟨(some 24), none, .op (.mv (.t 1))⟩,  ⟨(some 25), none, .op (.mv (.t 2))⟩,  ⟨(some 26), none, .op (.build [(.int .i64 0), .nils] [(0, 1, (.t 24)), (1, 1, (.t 25))])⟩,  ⟨(some 27), none, .op (.bsl (some 2) [(.int .i64 0), .nils] 1 [(0, 2, (.t 26))])⟩,  ⟨(some 28), none, .op (.app (some 2) 32 (.t 23) (.t 27))⟩,  ⟨(some 29), none, .op (.nchk (.t 19))⟩,  ⟨(some 30), none, .op (.fad 2 (.t 29))⟩,  ⟨none, none, .op (.store 1 (.t 30) (.t 28))⟩] []
def c0h : FC := .reg [⟨(some 31), none, .op (.mv (.t 0))⟩,  ⟨(some 32), none, .op (.nchk (.t 31))⟩,  ⟨(some 33), none, .op (.fad 10 (.t 32))⟩,  ⟨(some 34), none, .op (.load none (.t 33))⟩,  ⟨(some 35), none, .op (.bin .none .add (.t 34) (.v (.int .i64 1)))⟩,  ⟨(some 36), none, .op (.nchk (.t 31))⟩,  ⟨(some 37), none, .op (.fad 10 (.t 36))⟩,  ⟨none, none, .op (.store 1 (.t 37) (.t 35))⟩] []
def c0i : FC := .reg [⟨(some 38), none, .op (.mv (.t 0))⟩,  ⟨(some 39), none, .op (.mv (.t 0))⟩,  ⟨(some 40), none, .op (.nchk (.t 39))⟩,  ⟨(some 41), none, .op (.fad 6 (.t 40))⟩,  ⟨(some 42), none, .op (.load none (.t 41))⟩,  ⟨(some 43), none, .op (.mv (.t 0))⟩,  ⟨(some 44), none, .op (.nchk (.t 43))⟩,  ⟨(some 45), none, .op (.fad 10 (.t 44))⟩,  ⟨(some 46), none, .op (.load none (.t 45))⟩,  ⟨(some 47), none, .op (.mn true (.t 42) (.t 46))⟩,  ⟨(some 48), none, .op (.nchk (.t 38))⟩,  ⟨(some 49), none, .op (.fad 6 (.t 48))⟩,  ⟨none, none, .op (.store 1 (.t 49) (.t 47))⟩] []
def c0j : FC := .seq c0h c0i
def c0k : FC := .seq c0g c0j
def c0l : FC := .seq c0f c0k
def c4j : FC := c0l
theorem c4k : Fn3 Try.prog 152 50 [] c4j := ⟨_, _, Try.func152, rfl, rfl, rfl, by kernel_rfl⟩

def c0m : FC := .reg [⟨(some 2), none, .op (.mv (.v (.int .u64 0)))⟩,  ⟨(some 3), none, .op (.mv (.v (.int .u64 0)))⟩] []
def c0n : FC := .reg [⟨(some 5), none, .op (.mv (.t 0))⟩,  ⟨(some 6), none, .op (.nchk (.t 5))⟩,  ⟨(some 7), none, .op (.fad 9 (.t 6))⟩,  ⟨(some 8), none, .op (.load none (.t 7))⟩,  ⟨(some 9), none, .op (.len .sl (.t 8))⟩,  ⟨(some 10), none, .op (.bin .none .sub (.t 9) (.v (.int .i64 1)))⟩,  ⟨(some 4), none, .op (.mv (.t 10))⟩] []
def c0o : FC := .reg [⟨(some 11), none, .op (.mv (.t 0))⟩,  ⟨(some 12), none, .op (.nchk (.t 11))⟩,  ⟨(some 13), none, .op (.fad 8 (.t 12))⟩,  ⟨(some 14), none, .op (.load none (.t 13))⟩,  ⟨(some 15), none, .op (.mv (.t 0))⟩,  ⟨(some 16), none, .op (.nchk (.t 15))⟩,  ⟨(some 17), none, .op (.fad 8 (.t 16))⟩,  ⟨(some 18), none, .op (.load none (.t 17))⟩,  ⟨(some 19), none, .op (.len .sl (.t 18))⟩,  ⟨(some 20), none, .op (.bin .none .sub (.t 19) (.v (.int .i64 1)))⟩,  ⟨(some 21), none, .op (.iad none none (.t 14) (.t 20))⟩,  ⟨(some 22), none, .op (.load none (.t 21))⟩,  ⟨(some 23), none, .op (.nchk (.t 22))⟩,  ⟨(some 24), none, .op (.fad 1 (.t 23))⟩,  ⟨(some 25), none, .op (.load none (.t 24))⟩,  ⟨(some 26), none, .op (.bin .none .neq (.t 25) (.v (.int .i64 2)))⟩,  ⟨(some 27), none, .op (.mv (.t 26))⟩,  ⟨(some 28), some (27, false), .op (.mv (.t 0))⟩,  ⟨(some 29), some (27, false), .op (.nchk (.t 28))⟩,  ⟨(some 30), some (27, false), .op (.fad 9 (.t 29))⟩,  ⟨(some 31), some (27, false), .op (.load none (.t 30))⟩,  ⟨(some 32), some (27, false), .op (.mv (.t 4))⟩,  ⟨(some 33), some (27, false), .op (.iad none (some 2) (.t 31) (.t 32))⟩,  ⟨(some 34), some (27, false), .op (.fad 1 (.t 33))⟩,  ⟨(some 35), some (27, false), .op (.load none (.t 34))⟩,  ⟨(some 36), none, .op (.pick (.t 27) (.v (.bool true)) (.t 35))⟩] []
def c0p : FC := .reg [⟨(some 2), none, .op (.mv (.v (.int .u64 0)))⟩,  ⟨(some 3), none, .op (.mv (.v (.int .u64 0)))⟩] []
def c0q : FC := .seq c0p FC.ret
def c0r : FC := .cond (.t 36) c0q FC.skip
def c0s : FC := .seq c0o c0r
def c0t : FC := .reg [⟨(some 37), none, .op (.mv (.t 0))⟩,  ⟨(some 38), none, .op (.nchk (.t 37))⟩,  ⟨(some 39), none, .op (.fad 9 (.t 38))⟩,  ⟨(some 40), none, .op (.load none (.t 39))⟩,  ⟨(some 41), none, .op (.mv (.t 4))⟩,  ⟨(some 42), none, .op (.iad none (some 2) (.t 40) (.t 41))⟩,  ⟨(some 43), none, .op (.fad 1 (.t 42))⟩,  ⟨none, none, .op (.store 1 (.t 43) (.v (.bool true)))⟩] []
def c0u : FC := .reg [⟨(some 44), none, .op (.mv (.t 0))⟩,  ⟨(some 45), none, .op (.nchk (.t 44))⟩,  ⟨(some 46), none, .op (.fad 9 (.t 45))⟩,  ⟨(some 47), none, .op (.load none (.t 46))⟩,  ⟨(some 48), none, .op (.mv (.t 4))⟩,  ⟨(some 49), none, .op (.iad none (some 2) (.t 47) (.t 48))⟩,  ⟨(some 50), none, .op (.fad 0 (.t 49))⟩,  ⟨(some 51), none, .op (.load none (.t 50))⟩,  ⟨(some 2), none, .op (.mv (.t 51))⟩,  ⟨(some 3), none, .op (.mv (.v (.int .u64 1)))⟩] []
def b3G : FC := .seq c0u FC.ret
def b3H : FC := .seq c0t b3G
def b3I : FC := .seq c0s b3H
def b3J : FC := .seq c0n b3I
def b3K : FC := .seq c0m b3J
def c4l : FC := b3K
theorem c4m : Fn3 Try.prog 154 52 [(2, none), (3, none)] c4l := ⟨_, _, Try.func154, rfl, rfl, rfl, by kernel_rfl⟩

section
variable {a0 a1 a2 a3 a4 a5 a6 a7 a9 a10 : AV} {m ro rv n : Nat} {p : GP} {rc rj : List AV} {dep w k live dfs : Int} {ag : List Int} {z : Row} {f : SFr}
theorem c0v {a b : Int} : (if b > a then b else a) = max a b := by split <;> omega
theorem a7H (hn : n < 100000000) (hrc : rc.length = n) (hdf : z.df.length < 100000000) (hlv : 0 ≤ live ∧ live < 1000000000) :
  Tri Try.prog 152 [.ptr m 0 0, .int .i64 k, .sl false 1 (ag.map (avI .u64))] ((m, 0, [a0, a1, a2, a3, a4, a5, .int .i64 dfs, a7, .ref ro rv 0 (n + 1) none, a9, .int .i64 live]) :: (ro, rv, rc ++ (.ptr z.s 0 0 :: rj)) :: slL z)
   (fun r L' => L' = (m, 0, [a0, a1, a2, a3, a4, a5, .int .i64 (max dfs (live + 1)), a7, .ref ro rv 0 (n + 1) none, a9, .int .i64 (live + 1)]) :: (ro, rv, rc ++ (.ptr z.s 0 0 :: rj)) :: slL { z with df := ⟨k, ag⟩ :: z.df, dv := z.dv + 1, dj := [] }) := by
 refine l6 mixed c4k zS [] (fun R S hS => ?_)
 refine aU ?_
 refine d7 hS rfl (.head _) (v := .ref ro rv 0 (n + 1) none) rfl ?_
 refine aU ?_
 refine d7 hS rfl (.head _) (v := .ref ro rv 0 (n + 1) none) rfl ?_
 refine aU ?_
 refine v7 rfl rfl n (a0I zO) zO ?_
 refine d7 hS rfl (.tail _ (.head _)) (v := .ptr z.s 0 0) (a2R rfl hrc.symm) ?_
 refine aU ?_
 refine d7 hS rfl (.tail _ (.tail _ (.head _))) (v := .ref z.d z.dv 0 z.df.length (some 2)) rfl ?_
 refine aU ?_
 refine a7D (o := z.d) (ver := z.dv) (f := a0S.av) (l := z.df.reverse) (m := [(⟨k, ag⟩ : a0S)]) (j := z.dj) hS a0S.enc (by show AV.ref z.d z.dv 0 z.df.length _ = _; rw [List.length_reverse]) (a4l (f := a0S.av) (esh := some 2) [(⟨k, ag⟩ : a0S)]) (Rp.there (Rp.there (Rp.there Rp.here))) ⟨by simp; omega, by simp; omega⟩ (fun S hS => ?_)
 refine aU ?_
 refine E_stS hS rfl (xv := .ref z.d (z.dv + 1) 0 (z.df.length + 1) (some 2)) (by show AV.ref z.d (z.dv + 1) 0 (z.df.reverse ++ [(⟨k, ag⟩ : a0S)]).length _ = _; simp) (Rp.there (Rp.there Rp.here)) rfl rfl (by first | exact Nat.le_of_ble_eq_true rfl | (simp; omega) | omega) (fun S hS => ?_)
 refine aU ?_
 refine d7 hS rfl (.head _) (v := .int .i64 live) rfl ?_
 refine aU ?_
 refine E_stS hS rfl (xv := .int .i64 (live + 1)) (by show AV.int .i64 (IntKind.i64.wrap (live + 1)) = _; rw [a0B zO]) Rp.here rfl rfl (by first | exact Nat.le_of_ble_eq_true rfl | (simp; omega) | omega) (fun S hS => ?_)
 refine aU ?_
 refine d7 hS rfl (.head _) (v := .int .i64 dfs) rfl ?_
 refine aU ?_
 refine d7 hS rfl (.head _) (v := .int .i64 (live + 1)) rfl ?_
 refine aU ?_
 refine E_stS hS rfl (xv := .int .i64 (max dfs (live + 1))) (by show AV.int .i64 (if true = true then if live + 1 > dfs then live + 1 else dfs else _) = _; rw [if_pos rfl, c0v]) Rp.here rfl rfl (by first | exact Nat.le_of_ble_eq_true rfl | (simp; omega) | omega) (fun S hS => ?_)
 refine aU ?_
 (repeat (first | refine j3 ?_ | refine j4 ?_ | refine j5 rfl ?_ | refine f6 ?_ | refine f8 ?_ | refine j2 ?_))
 refine ⟨trivial, _, rfl, _, rfl, ?_⟩
 have e1 : flat a0S.av ((⟨k, ag⟩ : a0S) :: z.df).reverse ++ [] = flat a0S.av (z.df.reverse ++ [(⟨k, ag⟩ : a0S)]) := by rw [List.append_nil, List.reverse_cons]
 show Sep S (_ :: _ :: (z.s, 0, _) :: (z.d, z.dv + 1, flat a0S.av ((⟨k, ag⟩ : a0S) :: z.df).reverse ++ []) :: R)
 rw [e1]
 exact hS
end
section
variable {a0 a1 a2 a3 a4 a5 a6 a7 a10 : AV} {m ro rv n po pv : Nat} {p : GP} {rc rj pj : List AV} {z : Row} {pans : List s4}
def a2H (why : Int) (pans : List s4) : (Int × Int) × List s4 := match pans with
 | [] => ((0, 0), [])
 | x :: l => if why ≠ 2 ∨ x.rcv = true then ((0, 0), x :: l) else ((x.v, 1), { x with rcv := true } :: l)
theorem a6n (hn : n < 100000000) (hrc : rc.length = n) (hp : z.why = 2 → pans ≠ []) (hpl : pans.length < 100000000) :
  Tri Try.prog 154 [.ptr m 0 0] ((m, 0, [a0, a1, a2, a3, a4, a5, a6, a7, .ref ro rv 0 (n + 1) none, .ref po pv 0 pans.length (some 2), a10]) :: (ro, rv, rc ++ (.ptr z.s 0 0 :: rj)) :: (po, pv, flat s4.av pans.reverse ++ pj) :: slL z)
   (fun r L' => r = .tup [.int .u64 (a2H z.why pans).1.1, .int .u64 (a2H z.why pans).1.2] ∧ L' = (m, 0, [a0, a1, a2, a3, a4, a5, a6, a7, .ref ro rv 0 (n + 1) none, .ref po pv 0 pans.length (some 2), a10]) :: (ro, rv, rc ++ (.ptr z.s 0 0 :: rj)) :: (po, pv, flat s4.av (a2H z.why pans).2.reverse ++ pj) :: slL z) := by
 refine l6 mixed c4m zS [] (fun R S hS => ?_)
 refine aU ?_
 refine d7 hS rfl (.head _) (v := .ref po pv 0 pans.length (some 2)) rfl ?_
 refine aU ?_
 refine d7 hS rfl (.head _) (v := .ref ro rv 0 (n + 1) none) rfl ?_
 refine aU ?_
 refine d7 hS rfl (.head _) (v := .ref ro rv 0 (n + 1) none) rfl ?_
 refine aU ?_
 refine v7 rfl rfl n (a0I zO) zO ?_
 refine d7 hS rfl (.tail _ (.head _)) (v := .ptr z.s 0 0) (a2R rfl hrc.symm) ?_
 refine aU ?_
 refine d7 hS rfl (.tail _ (.tail _ (.tail _ (.head _)))) (v := .int .i64 z.why) rfl ?_
 by_cases hw : z.why = 2
 ·obtain ⟨x, l, rfl⟩ : ∃ x l, pans = x :: l := by
   cases pans with
   | nil => exact absurd rfl (hp hw)
   | cons x l => exact ⟨x, l, rfl⟩
  have hx : (x :: l).reverse[l.length]? = some x := by rw [List.reverse_cons, List.getElem?_append_right zS]; simp
  simp only [List.length_cons] at hpl
  refine s8 (v' := .bool false) rfl (by show AV.bool (z.why != 2) = _; rw [hw]; rfl) ?_
  refine aU ?_
  refine d7 hS rfl (.head _) (v := .ref po pv 0 (l.length + 1) (some 2)) rfl ?_
  refine aU ?_
  refine v7 rfl rfl l.length (a0I zO) zO ?_
  refine aU ?_
  refine a7E hS s4.enc rfl (.tail _ (.tail _ (.head _))) (n := l.length) (fo := 1) (y := x) zS hx (v := .bool x.rcv) rfl ?_
  refine s9 rfl (v' := .bool x.rcv) rfl ?_
  refine aU ?_
  refine f9 (t := x.rcv) rfl (fun hr => ?_) (fun hr => ?_)
  ·refine aU ?_
   refine g8 ?_
   (repeat (first | refine j3 ?_ | refine j4 ?_ | refine j5 rfl ?_ | refine f6 ?_ | refine f8 ?_ | refine j2 ?_))
   have e : a2H z.why (x :: l) = ((0, 0), x :: l) := by simp [a2H, hr]
   rw [e]
   exact ⟨trivial, _, rfl, _, ⟨rfl, rfl⟩, hS⟩
  ·refine aU ?_
   refine d7 hS rfl (.head _) (v := .ref po pv 0 (l.length + 1) (some 2)) rfl ?_
   refine aU ?_
   refine v7 rfl rfl l.length (a0I zO) zO ?_
   refine aU ?_
   refine b8q (y' := ({ x with rcv := true } : s4)) hS s4.enc rfl rfl (n := l.length) (fo := 1) (y := x) zS hx (Rp.there (Rp.there Rp.here)) rfl rfl (by simp [f5]) rfl (fun S hS => ?_)
   have hset : (x :: l).reverse.set l.length ({ x with rcv := true } : s4) = (({ x with rcv := true } : s4) :: l).reverse := by
    simp [List.set_append]
   rw [hset] at hS
   have hx2 : (({ x with rcv := true } : s4) :: l).reverse[l.length]? = some ({ x with rcv := true } : s4) := by rw [List.reverse_cons, List.getElem?_append_right zS]; simp
   refine aU ?_
   refine d7 hS rfl (.head _) (v := .ref po pv 0 (l.length + 1) (some 2)) rfl ?_
   refine aU ?_
   refine v7 rfl rfl l.length (a0I zO) zO ?_
   refine aU ?_
   refine a7E hS s4.enc rfl (.tail _ (.tail _ (.head _))) (n := l.length) (fo := 0) (y := ({ x with rcv := true } : s4)) zS hx2 (v := .int .u64 x.v) rfl ?_
   refine aU ?_
   refine g8 ?_
   (repeat (first | refine j3 ?_ | refine j4 ?_ | refine j5 rfl ?_ | refine f6 ?_ | refine f8 ?_ | refine j2 ?_))
   have e : a2H z.why (x :: l) = ((x.v, 1), { x with rcv := true } :: l) := by simp [a2H, hr, hw]
   rw [e]
   exact ⟨trivial, _, rfl, _, ⟨rfl, rfl⟩, hS⟩
 ·have hb : (z.why != 2) = true := by simpa using hw
  refine s8 (v' := .bool true) rfl (by show AV.bool (z.why != 2) = _; rw [hb]) ?_
  refine aU ?_
  refine f9 (t := true) rfl (fun _ => ?_) (fun h => by cases h)
  refine aU ?_
  refine g8 ?_
  (repeat (first | refine j3 ?_ | refine j4 ?_ | refine j5 rfl ?_ | refine f6 ?_ | refine f8 ?_ | refine j2 ?_))
  have e : a2H z.why pans = ((0, 0), pans) := by
   unfold a2H
   cases pans with
   | nil => rfl
   | cons x l => simp only; rw [if_pos (.inl hw)]
  rw [e]
  exact ⟨trivial, _, rfl, _, ⟨rfl, rfl⟩, hS⟩
end
end Go.Proofs.Ytnpemocpfdgaoaa

