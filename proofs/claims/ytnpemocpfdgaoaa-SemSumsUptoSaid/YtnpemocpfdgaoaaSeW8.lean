/- What runs: rows of frames, deferred calls, panics; told plainly, and as objects. -/
import Derived.Test.YtnpemocpfdgaoaaGenTr
import Derived.Test.YtnpemocpfdgaoaaWlK8
set_option linter.unusedVariables false
set_option linter.unusedSimpArgs false
namespace Go.Proofs.Ytnpemocpfdgaoaa
open Go Go.Ab
structure a0J where
 f : Int
 args : List Int
def a0J.cells (x : a0J) : List AV := [.int .i64 x.f, .sl false 1 (List.map (avI .u64) x.args)]
def a0J.av (x : a0J) : AV := .agg x.cells
theorem a0J.enc : Enc a0J.av (some 2) := ⟨fun _ => rfl, fun _ => rfl, fun _ => rfl, fun x n => k8 ⟨rfl, ((q6 (f4 .u64) 1).blw x.args n), trivial⟩⟩
structure n9 where
 v : Int
 rcv : Bool
def n9.cells (x : n9) : List AV := [.int .u64 x.v, .bool x.rcv]
def n9.av (x : n9) : AV := .agg x.cells
theorem n9.enc : Enc n9.av (some 2) := ⟨fun _ => rfl, fun _ => rfl, fun _ => rfl, fun x n => k8 ⟨rfl, rfl, trivial⟩⟩
structure SFr where
 f : Func
 lo : List Int
 st : List Int
 pc : Int
 nu : Int
structure ARow where
 fr : SFr
 why : Int
 df : List a0J
 ret : Int
structure AS where
 tape : List Int
 evs : List j7
 ek : Int
 ev : Int
 steps : Int
 depth : Int
 defers : Int
 panics : Int
 rows : List ARow
 pans : List n9
 live : Int
structure FO where
 x : Nat
 l : Nat
 t : Nat
 tv : Nat
 tj : List AV
structure Row extends ARow where
 s : Nat
 d : Nat
 dv : Nat
 dj : List AV
 q : FO
abbrev frC (p : Program) (f : SFr) (q : FO) : List AV := [.cptr (Program.av p).cells 0, .cptr (Func.av f.f).cells 0, .ref q.l 0 0 f.lo.length none, .ref q.t q.tv 0 f.st.length none, .int .i64 f.pc, .int .i64 f.nu]
abbrev frL (p : Program) (f : SFr) (q : FO) : List It := [(q.x, 0, frC p f q), (q.l, 0, flat (avI .u64) f.lo), (q.t, q.tv, flat (avI .u64) f.st.reverse ++ q.tj)]
abbrev slL (z : Row) : List It := [(z.s, 0, [.iface 128 (.ptr z.q.x 0 0), .int .i64 z.why, .ref z.d z.dv 0 z.df.length (some 2), .int .u64 z.ret]), (z.d, z.dv, flat a0J.av z.df.reverse ++ z.dj)]
def a0a (p : Program) (z : Row) : List It := slL z ++ frL p z.fr z.q
def mkA (p : Program) : AV := .fn (.func 41) [] [.cptr (Program.av p).cells 0]
def a0p (rows : List Row) : List ARow := rows.map Row.toARow
end Go.Proofs.Ytnpemocpfdgaoaa

/- sem.frame's stack: the walks. -/
namespace Go.Ab
section
variable {P : Program} {S0 : List Ob} {ow : List Nat} {fr : Fr} {S : List Ob} {log : List LE} {L L' : List It} {esh : Option Nat}
theorem u6 {d x i rs} {K : Fr → List Ob → List LE → Prop} {o ver off m k z} (e : ev (Fr.get fr) x = .ref o ver off m esh) (e1 : ev (Fr.get fr) i = .int k z) (n : Nat) (hz : z = (n : Int)) (hn : n < m)
  (h : VTops P ow rs ((d, .ptr o ver (off + n * c9 esh)) :: fr) S (.acc [] none :: log) K) : VTops P ow (⟨some d, none, .op (.iad none esh x i)⟩ :: rs) fr S log K := by
 subst hz
 have := a2i (P := P) (ow := ow) (fr := fr) (S := S) (log := log) (d := d) (rs := rs) (K := K) (n := (n : Int)) e e1 ⟨by omega, by omega⟩ (by simpa using h)
 exact this
theorem b8W {d x lo hi rs} {K : Fr → List Ob → List LE → Prop} {o ver off n a : Nat} (e : ev (Fr.get fr) x = .ref o ver off n esh) (h1 : loN (evO (Fr.get fr) lo) = some a) (h2 : hiN n (evO (Fr.get fr) hi) = some a) (ha : a ≤ n ∧ 0 < a)
  (h : VTops P ow rs ((d, .sl false (c9 esh) []) :: fr) S (.acc [] none :: log) K) : VTops P ow (⟨some d, none, .op (.slc esh x lo hi none)⟩ :: rs) fr S log K := by
 refine a1v (v := .sl false (c9 esh) []) ?_ rfl h
 simp only [opV, e, b7X, h1, h2]
 rw [if_neg zO, if_pos ⟨trivial, trivial, ha.1⟩]; rfl
theorem c3D {d bytes s x rs} {K : Fr → List Ob → List LE → Prop} {o ver n m : Nat} {cs j ys : List AV} {rdx : List Nat} (hS : Sep S L) (e : ev (Fr.get fr) s = .ref o ver 0 n esh) (e2 : a5z esh (ev (Fr.get fr) x) S = some (m, ys, rdx))
  (hr : Rp L (o, ver, cs ++ j) (o, ver + 1, cs ++ ys) L') (hl : cs.length = n * c9 esh) (h1 : ys.all AV.one = true) (hb : (n + m) * bytes ≤ 140737488355328 ∧ n + m ≤ 140737488355328)
  (h : ∀ S', Sep S' L' → VTops P ow rs ((d, .ref o (ver + 1) 0 (n + m) esh) :: fr) S' (.acc (o :: o :: rdx) (some o) :: log) K) : VTops P ow (⟨some d, none, .op (.app esh bytes s x)⟩ :: rs) fr S log K := by
 have ho := hS.at hr.mem
 refine a0C (v := .ref o (ver + 1) 0 (n + m) esh) (rd := o :: rdx) (δ := some (o, .arr (ver + 1) (cs ++ ys))) ?_ rfl rfl (h _ (hS.rp hr))
 simp only [opV, b1x, e, e2, Option.bind_some, h1, if_true]
 rw [if_pos ⟨trivial, hb.1, hb.2⟩]
 simp only [p8, ho, if_true, Option.map_some, List.drop_zero]
 rw [← hl, List.take_left]
end
end Go.Ab
namespace Go.Proofs.Ytnpemocpfdgaoaa
open Go Go.Ab
set_option maxRecDepth 20000
set_option maxHeartbeats 2000000
def b8X : FC := .reg [⟨(some 2), none, .op (.mv (.v (.int .u64 0)))⟩] []
def b8Y : FC := .reg [⟨(some 5), none, .op (.mv (.t 0))⟩,  ⟨(some 6), none, .op (.nchk (.t 5))⟩,  ⟨(some 7), none, .op (.fad 3 (.t 6))⟩,  ⟨(some 8), none, .op (.load none (.t 7))⟩,  ⟨(some 9), none, .op (.len .sl (.t 8))⟩,  ⟨(some 10), none, .op (.bin .none .sub (.t 9) (.v (.int .i64 1)))⟩,  ⟨(some 3), none, .op (.mv (.t 10))⟩] []
def b8Z : FC := .reg [⟨(some 11), none, .op (.mv (.t 0))⟩,  ⟨(some 12), none, .op (.nchk (.t 11))⟩,  ⟨(some 13), none, .op (.fad 3 (.t 12))⟩,  ⟨(some 14), none, .op (.load none (.t 13))⟩,  ⟨(some 15), none, .op (.mv (.t 3))⟩,  ⟨(some 16), none, .op (.iad none none (.t 14) (.t 15))⟩,  ⟨(some 17), none, .op (.load none (.t 16))⟩,  ⟨(some 4), none, .op (.mv (.t 17))⟩] []
def b9a : FC := .reg [⟨(some 18), none, .op (.mv (.t 0))⟩,  ⟨(some 19), none, .op (.mv (.t 0))⟩,  ⟨(some 20), none, .op (.nchk (.t 19))⟩,  ⟨(some 21), none, .op (.fad 3 (.t 20))⟩,  ⟨(some 22), none, .op (.load none (.t 21))⟩,  ⟨(some 23), none, .op (.mv (.t 3))⟩,  ⟨(some 24), none, .op (.slc none (.t 22) none (some (.t 23)) none)⟩,  ⟨(some 25), none, .op (.nchk (.t 18))⟩,  ⟨(some 26), none, .op (.fad 3 (.t 25))⟩,  ⟨none, none, .op (.store 1 (.t 26) (.t 24))⟩] []
def b9b : FC := .reg [⟨(some 27), none, .op (.mv (.t 4))⟩,  ⟨(some 2), none, .op (.mv (.t 27))⟩] []
def b9c : FC := .seq b9b FC.ret
def b9d : FC := .seq b9a b9c
def b9e : FC := .seq b8Z b9d
def b9f : FC := .seq b8Y b9e
def b3Y : FC := .seq b8X b9f
def c3E : FC := b3Y
theorem c3F : Fn3 Try.prog 144 28 [(2, none)] c3E := ⟨_, _, Try.func144, rfl, rfl, rfl, by kernel_rfl⟩

def b9g : FC := .reg [⟨(some 4), none, .op (.mv (.t 0))⟩,  ⟨(some 5), none, .op (.mv (.t 0))⟩,  ⟨(some 6), none, .op (.nchk (.t 5))⟩,  ⟨(some 7), none, .op (.fad 3 (.t 6))⟩,  ⟨(some 8), none, .op (.load none (.t 7))⟩,  ⟨(some 9), none, .op (.mv (.t 1))⟩,  ⟨(some 10), none, .op (.app none 8 (.t 8) (.t 9))⟩,  ⟨(some 11), none, .op (.nchk (.t 4))⟩,  ⟨(some 12), none, .op (.fad 3 (.t 11))⟩,  ⟨none, none, .op (.store 1 (.t 12) (.t 10))⟩] []
def c3G : FC := b9g
theorem c3H : Fn3 Try.prog 143 13 [] c3G := ⟨_, _, Try.func143, rfl, rfl, rfl, by kernel_rfl⟩

theorem b0C {a b c e g : AV} {x t tv : Nat} {v : Int} {st : List Int} {j : List AV} (hl : st.length < 1000000000) :
  Tri Try.prog 144 [.ptr x 0 0] [(x, 0, [a, b, c, .ref t tv 0 (st.length + 1) none, e, g]), (t, tv, flat (avI .u64) (v :: st).reverse ++ j)] (fun r L' => r = .int .u64 v ∧ L' = [(x, 0, [a, b, c, .ref t tv 0 st.length none, e, g]), (t, tv, flat (avI .u64) st.reverse ++ (.int .u64 v :: j))]) := by
 have hx : (v :: st).reverse[st.length]? = some v := by rw [List.reverse_cons, List.getElem?_append_right zS]; simp
 have hw : IntKind.i64.wrap (((st.length + 1 : Nat) : Int) - 1) = (st.length : Int) := by rw [r9 zO]; omega
 refine j9 mixed c3F zS [] (fun R S hS => ?_)
 refine aU ?_
 refine f5 hS rfl (.head _) (v := .ref t tv 0 (st.length + 1) none) rfl ?_
 refine aU ?_
 refine f5 hS rfl (.head _) (v := .ref t tv 0 (st.length + 1) none) rfl ?_
 refine aU ?_
 refine u6 rfl rfl st.length hw zO ?_
 refine a7m hS (f4 .u64) rfl (.tail _ (.head _)) (n := st.length) (fo := 0) (y := v) (by simp [c9]) hx (v := .int .u64 v) rfl ?_
 refine aU ?_
 refine f5 hS rfl (.head _) (v := .ref t tv 0 (st.length + 1) none) rfl ?_
 refine aU ?_
 refine a2F (a := 0) (b := st.length) rfl rfl (by show hiN (st.length + 1) (some (.int .i64 (IntKind.i64.wrap (((st.length + 1 : Nat) : Int) - 1)))) = _; rw [hw, z0 zO]; simp) ⟨by omega, by omega, .inl rfl⟩ ?_
 refine aU ?_
 refine E_stS hS rfl (xv := .ref t tv 0 st.length none) (by show AV.ref t tv (0 + 0 * c9 none) (st.length - 0) none = _; simp) Rp.here rfl rfl (by first | exact Nat.le_of_ble_eq_true rfl | (simp; omega) | omega) (fun S hS => ?_)
 refine aU ?_
 refine f9 ?_
 (repeat (first | refine i9 ?_ | refine j2 ?_ | refine j3 rfl ?_ | refine d7 ?_ | refine f7 ?_ | refine i7 ?_))
 have e1 : flat (avI .u64) (v :: st).reverse ++ j = flat (avI .u64) st.reverse ++ (.int .u64 v :: j) := by rw [List.reverse_cons, m6]; simp [flat, avI, AV.cells]
 rw [e1] at hS
 exact ⟨trivial, _, rfl, _, ⟨rfl, rfl⟩, hS⟩
theorem a8m {a b c e g : AV} {x t tv : Nat} {ex : Bool} {vs st : List Int} {j : List AV} (hl : st.length < 1000000000) (hl2 : vs.length ≤ 1000) :
  Tri Try.prog 143 [.ptr x 0 0, .sl ex 1 (vs.map (avI .u64))] [(x, 0, [a, b, c, .ref t tv 0 st.length none, e, g]), (t, tv, flat (avI .u64) st.reverse ++ j)] (fun r L' => L' = [(x, 0, [a, b, c, .ref t (tv + 1) 0 (vs.reverse ++ st).length none, e, g]), (t, tv + 1, flat (avI .u64) (vs.reverse ++ st).reverse ++ [])]) := by
 refine j9 mixed c3H zS [] (fun R S hS => ?_)
 refine c7 ?_
 refine aS ?_
 refine f5 hS rfl (.head _) (v := .ref t tv 0 st.length none) rfl ?_
 refine aS ?_
 refine a6z (o := t) (ver := tv) (l := st.reverse) (m := vs) (j := j) hS (f4 .u64) (by show AV.ref t tv 0 st.length none = _; rw [List.length_reverse]) (u9 vs) (Rp.there Rp.here) ⟨by simp; omega, by simp; omega⟩ (fun S hS => ?_)
 refine aS ?_
 refine E_stS hS rfl zC Rp.here rfl rfl (by first | exact Nat.le_of_ble_eq_true rfl | (simp; omega) | omega) (fun S hS => ?_)
 refine b9 ?_
 (repeat (first | refine i9 ?_ | refine j2 ?_ | refine j3 rfl ?_ | refine d7 ?_ | refine f7 ?_ | refine i7 ?_))
 refine ⟨trivial, _, rfl, _, rfl, ?_⟩
 have e1 : (vs.reverse ++ st).reverse = st.reverse ++ vs := by simp
 have e2 : (vs.reverse ++ st).length = (st.reverse ++ vs).length := by simp; omega
 rw [e1, e2, List.append_nil]
 exact hS
end Go.Proofs.Ytnpemocpfdgaoaa

/- trace.In, trace.Out, sem.frame's Keep and Back: the walks. -/
namespace Go.Proofs.Ytnpemocpfdgaoaa
open Go Go.Ab
set_option maxRecDepth 20000
set_option maxHeartbeats 2000000
def b9h : FC := .reg [⟨(some 2), none, .op (.mv (.v (.int .u64 0)))⟩] []
def b9i : FC := .reg [⟨(some 4), none, .op (.mv (.t 0))⟩,  ⟨(some 5), none, .op (.bin .ptr .eql (.t 4) (.v .nilp))⟩] []
def b9j : FC := .reg [⟨(some 2), none, .op (.mv (.v (.int .u64 0)))⟩] []
def b9k : FC := .seq b9j FC.ret
def b9l : FC := .cond (.t 5) b9k FC.skip
def b9m : FC := .seq b9i b9l
def b9n : FC := .reg [⟨(some 3), none, .op (.mv (.v (.int .u64 0)))⟩] []
def b9o : FC := .reg [⟨(some 6), none, .op (.mv (.t 0))⟩,  ⟨(some 7), none, .op (.nchk (.t 6))⟩,  ⟨(some 8), none, .op (.fad 0 (.t 7))⟩,  ⟨(some 9), none, .op (.load none (.t 8))⟩,  ⟨(some 10), none, .op (.len .sl (.t 9))⟩,  ⟨(some 11), none, .op (.bin .none .gtr (.t 10) (.v (.int .i64 0)))⟩] []
def b9p : FC := .reg [⟨(some 12), none, .op (.mv (.t 0))⟩,  ⟨(some 13), none, .op (.mv (.t 0))⟩,  ⟨(some 14), none, .op (.nchk (.t 13))⟩,  ⟨(some 15), none, .op (.fad 0 (.t 14))⟩,  ⟨(some 16), none, .op (.load none (.t 15))⟩,  ⟨(some 17), none, .op (.iad none none (.t 16) (.v (.int .i64 0)))⟩,  ⟨(some 18), none, .op (.load none (.t 17))⟩,  ⟨(some 19), none, .op (.mv (.t 0))⟩,  ⟨(some 20), none, .op (.nchk (.t 19))⟩,  ⟨(some 21), none, .op (.fad 0 (.t 20))⟩,  ⟨(some 22), none, .op (.load none (.t 21))⟩,  ⟨(some 23), none, .op (.slc none (.t 22) (some (.v (.int .i64 1))) none none)⟩,  ⟨(some 3), none, .op (.mv (.t 18))⟩,  ⟨(some 24), none, .op (.nchk (.t 12))⟩,  ⟨(some 25), none, .op (.fad 0 (.t 24))⟩,  ⟨none, none, .op (.store 1 (.t 25) (.t 23))⟩] []
def b3Z : FC := .cond (.t 11) b9p FC.skip
def b4a : FC := .seq b9o b3Z
def b4b : FC := .reg [⟨(some 26), none, .op (.mv (.t 0))⟩,  ⟨(some 27), none, .op (.mv (.t 0))⟩,  ⟨(some 28), none, .op (.nchk (.t 27))⟩,  ⟨(some 29), none, .op (.fad 1 (.t 28))⟩,  ⟨(some 30), none, .op (.load none (.t 29))⟩,  ⟨(some 31), none, .op (.mv (.t 3))⟩,  ⟨(some 32), none, .op (.build [(.int .i64 0), (.int .u64 0)] [(0, 1, (.v (.int .i64 2))), (1, 1, (.t 31))])⟩,  ⟨(some 33), none, .op (.bsl (some 2) [(.int .i64 0), (.int .u64 0)] 1 [(0, 2, (.t 32))])⟩,  ⟨(some 34), none, .op (.app (some 2) 16 (.t 30) (.t 33))⟩,  ⟨(some 35), none, .op (.nchk (.t 26))⟩,  ⟨(some 36), none, .op (.fad 1 (.t 35))⟩,  ⟨none, none, .op (.store 1 (.t 36) (.t 34))⟩] []
def b4c : FC := .reg [⟨(some 37), none, .op (.mv (.t 3))⟩,  ⟨(some 2), none, .op (.mv (.t 37))⟩] []
def b4d : FC := .seq b4c FC.ret
def b4e : FC := .seq b4b b4d
def b4f : FC := .seq b4a b4e
def b4g : FC := .seq b9n b4f
def b4h : FC := .seq b9m b4g
def b4i : FC := .seq b9h b4h
def c3I : FC := b4i
theorem c3J : Fn3 Try.prog 139 38 [(2, none)] c3I := ⟨_, _, Try.func139, rfl, rfl, rfl, by kernel_rfl⟩

def b9q : FC := .reg [⟨(some 4), none, .op (.mv (.t 0))⟩,  ⟨(some 5), none, .op (.bin .ptr .neq (.t 4) (.v .nilp))⟩] []
def b9r : FC := .reg [⟨(some 6), none, .op (.mv (.t 0))⟩,  ⟨(some 7), none, .op (.mv (.t 0))⟩,  ⟨(some 8), none, .op (.nchk (.t 7))⟩,  ⟨(some 9), none, .op (.fad 1 (.t 8))⟩,  ⟨(some 10), none, .op (.load none (.t 9))⟩,  ⟨(some 11), none, .op (.mv (.t 1))⟩,  ⟨(some 12), none, .op (.build [(.int .i64 0), (.int .u64 0)] [(0, 1, (.v (.int .i64 1))), (1, 1, (.t 11))])⟩,  ⟨(some 13), none, .op (.bsl (some 2) [(.int .i64 0), (.int .u64 0)] 1 [(0, 2, (.t 12))])⟩,  ⟨(some 14), none, .op (.app (some 2) 16 (.t 10) (.t 13))⟩,  ⟨(some 15), none, .op (.nchk (.t 6))⟩,  ⟨(some 16), none, .op (.fad 1 (.t 15))⟩,  ⟨none, none, .op (.store 1 (.t 16) (.t 14))⟩] []
def b9s : FC := .cond (.t 5) b9r FC.skip
def b9t : FC := .seq b9q b9s
def c3K : FC := b9t
theorem c3L : Fn3 Try.prog 147 17 [] c3K := ⟨_, _, Try.func147, rfl, rfl, rfl, by kernel_rfl⟩

def b9u : FC := .reg [⟨(some 2), none, .op (.mv (.v (.int .u64 0)))⟩] []
def b9v : FC := .reg [⟨(some 3), none, .op (.mv (.t 0))⟩,  ⟨(some 4), none, .op (.nchk (.t 3))⟩,  ⟨(some 5), none, .op (.fad 1 (.t 4))⟩,  ⟨(some 6), none, .op (.load none (.t 5))⟩,  ⟨(some 7), none, .op (.nchk (.t 6))⟩,  ⟨(some 8), none, .op (.fad 3 (.t 7))⟩,  ⟨(some 9), none, .op (.load none (.t 8))⟩,  ⟨(some 10), none, .op (.bin .none .lss (.t 9) (.v (.int .i64 0)))⟩] []
def b9w : FC := .reg [⟨(some 2), none, .op (.mv (.v (.int .u64 0)))⟩] []
def b9x : FC := .seq b9w FC.ret
def b9y : FC := .cond (.t 10) b9x FC.skip
def b9z : FC := .seq b9v b9y
def b9A : FC := .reg [⟨(some 11), none, .op (.mv (.t 0))⟩,  ⟨(some 12), none, .op (.nchk (.t 11))⟩,  ⟨(some 13), none, .op (.fad 2 (.t 12))⟩,  ⟨(some 14), none, .op (.load none (.t 13))⟩,  ⟨(some 15), none, .op (.mv (.t 0))⟩,  ⟨(some 16), none, .op (.nchk (.t 15))⟩,  ⟨(some 17), none, .op (.fad 1 (.t 16))⟩,  ⟨(some 18), none, .op (.load none (.t 17))⟩,  ⟨(some 19), none, .op (.nchk (.t 18))⟩,  ⟨(some 20), none, .op (.fad 3 (.t 19))⟩,  ⟨(some 21), none, .op (.load none (.t 20))⟩,  ⟨(some 22), none, .op (.iad none none (.t 14) (.t 21))⟩,  ⟨(some 23), none, .op (.load none (.t 22))⟩,  ⟨(some 2), none, .op (.mv (.t 23))⟩] []
def b9B : FC := .seq b9A FC.ret
def b9C : FC := .seq b9z b9B
def b4j : FC := .seq b9u b9C
def c3M : FC := b4j
theorem c3N : Fn3 Try.prog 141 24 [(2, none)] c3M := ⟨_, _, Try.func141, rfl, rfl, rfl, by kernel_rfl⟩

def b9D : FC := .reg [⟨(some 4), none, .op (.mv (.t 0))⟩,  ⟨(some 5), none, .op (.nchk (.t 4))⟩,  ⟨(some 6), none, .op (.fad 0 (.t 5))⟩,  ⟨(some 7), none, .op (.load none (.t 6))⟩,  ⟨(some 8), none, .op (.nchk (.t 7))⟩,  ⟨(some 9), none, .op (.fad 0 (.t 8))⟩,  ⟨(some 10), none, .op (.load none (.t 9))⟩,  ⟨(some 11), none, .op (.mv (.t 0))⟩,  ⟨(some 12), none, .op (.nchk (.t 11))⟩,  ⟨(some 13), none, .op (.fad 1 (.t 12))⟩,  ⟨(some 14), none, .op (.load none (.t 13))⟩,  ⟨(some 15), none, .op (.nchk (.t 14))⟩,  ⟨(some 16), none, .op (.fad 4 (.t 15))⟩,  ⟨(some 17), none, .op (.load none (.t 16))⟩,  ⟨(some 18), none, .op (.mv (.t 0))⟩,  ⟨(some 19), none, .op (.nchk (.t 18))⟩,  ⟨(some 20), none, .op (.fad 4 (.t 19))⟩,  ⟨(some 21), none, .op (.load none (.t 20))⟩,  ⟨(some 22), none, .op (.bin .none .sub (.t 21) (.v (.int .i64 1)))⟩,  ⟨(some 23), none, .op (.iad none (some 3) (.t 17) (.t 22))⟩,  ⟨(some 24), none, .op (.fad 1 (.t 23))⟩,  ⟨(some 25), none, .op (.load none (.t 24))⟩,  ⟨(some 26), none, .op (.iad none (some 5) (.t 10) (.t 25))⟩,  ⟨(some 27), none, .op (.fad 2 (.t 26))⟩,  ⟨(some 28), none, .op (.load none (.t 27))⟩] []
def b9E : FC := .reg [⟨(some 29), none, .op (.mv (.t 0))⟩,  ⟨(some 30), none, .op (.mv (.t 1))⟩,  ⟨(some 31), none, .op (.bsl none [(.int .u64 0)] 1 [(0, 1, (.t 30))])⟩,  ⟨(some 32), none, .call 143 [(.t 29), (.t 31)]⟩] []
def b9F : FC := .cond (.t 28) b9E FC.skip
def b9G : FC := .seq b9D b9F
def c3O : FC := b9G
theorem c3P : Fn3 Try.prog 140 33 [] c3O := ⟨_, _, Try.func140, rfl, rfl, rfl, by kernel_rfl⟩

def b9H : FC := .reg [⟨(some 4), none, .op (.mv (.v .nils))⟩] []
def b9I : FC := .reg [⟨(some 7), none, .op (.mv (.t 0))⟩,  ⟨(some 8), none, .op (.nchk (.t 7))⟩,  ⟨(some 9), none, .op (.fad 3 (.t 8))⟩,  ⟨(some 10), none, .op (.load none (.t 9))⟩,  ⟨(some 11), none, .op (.len .sl (.t 10))⟩,  ⟨(some 12), none, .op (.mv (.t 0))⟩,  ⟨(some 13), none, .op (.nchk (.t 12))⟩,  ⟨(some 14), none, .op (.fad 0 (.t 13))⟩,  ⟨(some 15), none, .op (.load none (.t 14))⟩,  ⟨(some 16), none, .op (.nchk (.t 15))⟩,  ⟨(some 17), none, .op (.fad 0 (.t 16))⟩,  ⟨(some 18), none, .op (.load none (.t 17))⟩,  ⟨(some 19), none, .op (.mv (.t 1))⟩,  ⟨(some 20), none, .op (.iad none (some 5) (.t 18) (.t 19))⟩,  ⟨(some 21), none, .op (.fad 0 (.t 20))⟩,  ⟨(some 22), none, .op (.load none (.t 21))⟩,  ⟨(some 23), none, .op (.bin .none .sub (.t 11) (.t 22))⟩,  ⟨(some 5), none, .op (.mv (.t 23))⟩] []
def b9J : FC := .reg [⟨(some 24), none, .op (.mv (.t 0))⟩,  ⟨(some 25), none, .op (.nchk (.t 24))⟩,  ⟨(some 26), none, .op (.fad 3 (.t 25))⟩,  ⟨(some 27), none, .op (.load none (.t 26))⟩,  ⟨(some 28), none, .op (.mv (.t 5))⟩,  ⟨(some 29), none, .op (.slc none (.t 27) (some (.t 28)) none none)⟩,  ⟨(some 30), none, .op (.app none 8 (.v .nils) (.t 29))⟩,  ⟨(some 6), none, .op (.mv (.t 30))⟩] []
def b9K : FC := .reg [⟨(some 31), none, .op (.mv (.t 0))⟩,  ⟨(some 32), none, .op (.mv (.t 0))⟩,  ⟨(some 33), none, .op (.nchk (.t 32))⟩,  ⟨(some 34), none, .op (.fad 3 (.t 33))⟩,  ⟨(some 35), none, .op (.load none (.t 34))⟩,  ⟨(some 36), none, .op (.mv (.t 5))⟩,  ⟨(some 37), none, .op (.slc none (.t 35) none (some (.t 36)) none)⟩,  ⟨(some 38), none, .op (.nchk (.t 31))⟩,  ⟨(some 39), none, .op (.fad 3 (.t 38))⟩,  ⟨none, none, .op (.store 1 (.t 39) (.t 37))⟩] []
def b9L : FC := .reg [⟨(some 40), none, .op (.mv (.t 6))⟩,  ⟨(some 4), none, .op (.mv (.t 40))⟩] []
def b9M : FC := .seq b9L FC.ret
def b9N : FC := .seq b9K b9M
def b9O : FC := .seq b9J b9N
def b9P : FC := .seq b9I b9O
def b4k : FC := .seq b9H b9P
def c3Q : FC := b4k
theorem c3R : Fn3 Try.prog 151 41 [(4, none)] c3Q := ⟨_, _, Try.func151, rfl, rfl, rfl, by kernel_rfl⟩

def b9Q : FC := .reg [⟨(some 4), none, .op (.mv (.v (.int .u64 0)))⟩] []
def b9R : FC := .reg [⟨(some 5), none, .op (.mv (.t 0))⟩,  ⟨(some 6), none, .op (.bin .none .add (.t 5) (.v (.int .i64 1)))⟩,  ⟨(some 7), none, .op (.cint .u64 (.t 6))⟩,  ⟨(some 8), none, .op (.bin .none .shl (.t 7) (.v (.int .u64 8)))⟩,  ⟨(some 9), none, .op (.mv (.t 1))⟩,  ⟨(some 10), none, .op (.cint .u64 (.t 9))⟩,  ⟨(some 11), none, .op (.bin .none .or (.t 8) (.t 10))⟩,  ⟨(some 4), none, .op (.mv (.t 11))⟩] []
def b9S : FC := .seq b9R FC.ret
def b9T : FC := .seq b9Q b9S
def c3S : FC := b9T
theorem c3T : Fn3 Try.prog 145 12 [(4, none)] c3S := ⟨_, _, Try.func145, rfl, rfl, rfl, by kernel_rfl⟩

def b9U : FC := .reg [⟨(some 4), none, .op (.mv (.v .nilp))⟩] []
def b9V : FC := .reg [⟨(some 5), none, .op (.mv (.t 1))⟩,  ⟨(some 6), none, .op (.bin .none .eql (.t 5) (.v (.int .u64 0)))⟩] []
def b9W : FC := .reg [⟨(some 4), none, .op (.mv (.v .nilp))⟩] []
def b9X : FC := .seq b9W FC.ret
def b9Y : FC := .cond (.t 6) b9X FC.skip
def b9Z : FC := .seq b9V b9Y
def c0a : FC := .reg [⟨(some 7), none, .op (.mv (.t 0))⟩,  ⟨(some 8), none, .op (.mv (.t 1))⟩,  ⟨(some 9), none, .op (.bin .none .shr (.t 8) (.v (.int .u64 8)))⟩,  ⟨(some 10), none, .op (.cint .i64 (.t 9))⟩,  ⟨(some 11), none, .op (.bin .none .sub (.t 10) (.v (.int .i64 1)))⟩,  ⟨(some 12), none, .call 156 [(.t 7), (.t 11)]⟩,  ⟨(some 13), none, .op (.tas 128 (.t 12))⟩,  ⟨(some 14), none, .op (.nchk (.t 13))⟩,  ⟨(some 15), none, .op (.fad 2 (.t 14))⟩,  ⟨(some 16), none, .op (.load none (.t 15))⟩,  ⟨(some 17), none, .op (.mv (.t 1))⟩,  ⟨(some 18), none, .op (.bin .none .and (.t 17) (.v (.int .u64 255)))⟩,  ⟨(some 19), none, .op (.iad none none (.t 16) (.t 18))⟩,  ⟨(some 4), none, .op (.mv (.t 19))⟩] []
def c0b : FC := .seq c0a FC.ret
def c0c : FC := .seq b9Z c0b
def b4l : FC := .seq b9U c0c
def c3U : FC := b4l
theorem c0d : Fn3 Try.prog 149 20 [(4, none)] c3U := ⟨_, _, Try.func149, rfl, rfl, rfl, by kernel_rfl⟩


def inV (tape : List Int) : Int := tape.headD 0
section
variable {tape : List Int} {evs : List j7} {tr te tv : Nat}
theorem b0D {S : List Ob} {K v : Int} : a5z (some 2) (.sl true 2 [.agg [.int .i64 K, .int .u64 v]]) S = some (1, flat j7.av [(⟨K, v⟩ : j7)], []) := u9 (f := j7.av) (esh := some 2) [(⟨K, v⟩ : j7)]
theorem c0e (hl : evs.length < 1000000000) :
  Tri Try.prog 139 [.ptr tr 0 0] [(tr, 0, [.sl false 1 (tape.map (avI .u64)), .ref te tv 0 evs.length (some 2)]), (te, tv, flat j7.av evs)]
   (fun r L' => r = .int .u64 (inV tape) ∧ L' = [(tr, 0, [.sl false 1 (tape.tail.map (avI .u64)), .ref te (tv + 1) 0 (evs ++ [(⟨2, inV tape⟩ : j7)]).length (some 2)]), (te, tv + 1, flat j7.av (evs ++ [(⟨2, inV tape⟩ : j7)]))]) := by
 refine j9 mixed c3J zS [] (fun R S hS => ?_)
 refine aU ?_
 refine d9 (t := false) rfl (fun h => by cases h) (fun _ => ?_)
 refine aU ?_
 refine f5 hS rfl (.head _) (v := .sl false 1 (tape.map (avI .u64))) rfl ?_
 refine aU ?_
 cases tape with
 | nil =>
   refine d9 (t := false) rfl (fun h => by cases h) (fun _ => ?_)
   refine aU ?_
   refine f5 hS rfl (.head _) (v := .ref te tv 0 evs.length (some 2)) rfl ?_
   refine aU ?_
   refine a6z (o := te) (ver := tv) (l := evs) (m := [(⟨2, 0⟩ : j7)]) (j := []) hS j7.enc rfl b0D (Rp.there (by rw [List.append_nil]; exact Rp.here)) ⟨by simp; omega, by simp; omega⟩ (fun S hS => ?_)
   refine aU ?_
   refine E_stS hS rfl zC (by first | exact Rp.here | (repeat (first | exact Rp.here | apply Rp.there | apply Rp.skip))) rfl rfl (by first | exact Nat.le_of_ble_eq_true rfl | (simp; omega) | omega) (fun S hS => ?_)
   refine aU ?_
   refine f9 ?_
   (repeat (first | refine i9 ?_ | refine j2 ?_ | refine j3 rfl ?_ | refine d7 ?_ | refine f7 ?_ | refine i7 ?_))
   exact ⟨trivial, _, rfl, _, ⟨rfl, rfl⟩, hS⟩
 | cons v l =>
   refine d9 (t := true) (by show AV.bool (decide (((v :: l).length : Int) > 0)) = _; rw [decide_eq_true (by simp only [List.length_cons]; omega)]) (fun _ => ?_) (fun h => by cases h)
   refine aU ?_
   refine f5 hS rfl (.head _) (v := .sl false 1 ((v :: l).map (avI .u64))) rfl ?_
   refine aU ?_
   refine q9 (esh := none) (f := avI .u64) (ys := v :: l) (y := v) rfl rfl rfl ?_
   refine aU ?_
   refine f5 hS rfl (.head _) (v := .sl false 1 ((v :: l).map (avI .u64))) rfl ?_
   refine aU ?_
   refine b3c (esh := none) (f := avI .u64) (l := v :: l) (a := 1) (b := l.length + 1) rfl rfl rfl ⟨by omega, by simp⟩ ?_
   refine aU ?_
   refine E_stS hS rfl (xv := .sl false 1 (l.map (avI .u64))) (by show AV.sl false 1 (List.map (avI .u64) (List.drop 1 (List.take (l.length + 1) (v :: l)))) = _; simp) Rp.here rfl rfl (by first | exact Nat.le_of_ble_eq_true rfl | (simp; omega) | omega) (fun S hS => ?_)
   refine aU ?_
   refine f5 hS rfl (.head _) (v := .ref te tv 0 evs.length (some 2)) rfl ?_
   refine aU ?_
   refine a6z (o := te) (ver := tv) (l := evs) (m := [(⟨2, v⟩ : j7)]) (j := []) hS j7.enc rfl b0D (Rp.there (by rw [List.append_nil]; exact Rp.here)) ⟨by simp; omega, by simp; omega⟩ (fun S hS => ?_)
   refine aU ?_
   refine E_stS hS rfl zC (by first | exact Rp.here | (repeat (first | exact Rp.here | apply Rp.there | apply Rp.skip))) rfl rfl (by first | exact Nat.le_of_ble_eq_true rfl | (simp; omega) | omega) (fun S hS => ?_)
   refine aU ?_
   refine f9 ?_
   (repeat (first | refine i9 ?_ | refine j2 ?_ | refine j3 rfl ?_ | refine d7 ?_ | refine f7 ?_ | refine i7 ?_))
   exact ⟨trivial, _, rfl, _, ⟨rfl, rfl⟩, hS⟩
theorem b4m {v : Int} (hl : evs.length < 1000000000) :
  Tri Try.prog 147 [.ptr tr 0 0, .int .u64 v] [(tr, 0, [.sl false 1 (tape.map (avI .u64)), .ref te tv 0 evs.length (some 2)]), (te, tv, flat j7.av evs)]
   (fun _ L' => L' = [(tr, 0, [.sl false 1 (tape.map (avI .u64)), .ref te (tv + 1) 0 (evs ++ [(⟨1, v⟩ : j7)]).length (some 2)]), (te, tv + 1, flat j7.av (evs ++ [(⟨1, v⟩ : j7)]))]) := by
 refine j9 mixed c3L zS [] (fun R S hS => ?_)
 refine aU ?_
 refine d9 (t := true) rfl (fun _ => ?_) (fun h => by cases h)
 refine aU ?_
 refine f5 hS rfl (.head _) (v := .ref te tv 0 evs.length (some 2)) rfl ?_
 refine aU ?_
 refine a6z (o := te) (ver := tv) (l := evs) (m := [(⟨1, v⟩ : j7)]) (j := []) hS j7.enc rfl b0D (Rp.there (by rw [List.append_nil]; exact Rp.here)) ⟨by simp; omega, by simp; omega⟩ (fun S hS => ?_)
 refine aU ?_
 refine E_stS hS rfl zC (by first | exact Rp.here | (repeat (first | exact Rp.here | apply Rp.there | apply Rp.skip))) rfl rfl (by first | exact Nat.le_of_ble_eq_true rfl | (simp; omega) | omega) (fun S hS => ?_)
 refine aU ?_
 (repeat (first | refine i9 ?_ | refine j2 ?_ | refine j3 rfl ?_ | refine d7 ?_ | refine f7 ?_ | refine i7 ?_))
 exact ⟨trivial, _, rfl, _, rfl, hS⟩
end
end Go.Proofs.Ytnpemocpfdgaoaa

/- sem.frame's Keep, Back, args: the walks. -/
namespace Go.Ab
section
variable {P : Program} {S0 : List Ob} {ow : List Nat} {fr : Fr} {S : List Ob} {log : List LE}
theorem b2l {esh : Option Nat} {o ver off m : Nat} {cs : List AV} (ho : hp S o = .arr ver cs) : a5z esh (.ref o ver off m esh) S = some (m, (cs.drop off).take (m * c9 esh), [o]) := by
 simp only [a5z, if_true, p8, ho, Option.map_some]
theorem b2m {d x lo rs} {K : Fr → List Ob → List LE → Prop} {o ver n a : Nat} (e : ev (Fr.get fr) x = .ref o ver 0 n none) (h1 : loN (evO (Fr.get fr) lo) = some a) (ha : a ≤ n)
  (h : ∀ w, (∀ (S : List Ob) (cs : List AV), hp S o = .arr ver cs → ∃ rdx, a5z none w S = some (n - a, (cs.drop a).take (n - a), rdx)) → VTops P ow rs ((d, w) :: fr) S (.acc [] none :: log) K) : VTops P ow (⟨some d, none, .op (.slc none x lo none none)⟩ :: rs) fr S log K := by
 by_cases h0 : a = 0 ∨ a < n
 ·refine a2F (a := a) (b := n) e h1 rfl ⟨ha, Nat.le_refl _, h0⟩ (h _ (fun S cs ho => ⟨[o], ?_⟩))
  rw [b2l ho]; simp [c9]
 ·have : a = n := by omega
  subst this
  refine b8W e h1 rfl ⟨Nat.le_refl _, by omega⟩ (h _ (fun S cs ho => ⟨[], ?_⟩))
  simp [a5z, c9]
end
end Go.Ab
namespace Go.Proofs.Ytnpemocpfdgaoaa
open Go Go.Ab
set_option maxRecDepth 20000
set_option maxHeartbeats 2000000
section
variable {p : Program} {f : SFr} {q : FO}
def a8P (f : SFr) : Option Int := if f.f.Keep < 0 then some 0 else r7 f.lo f.f.Keep
theorem b2n {v : Int} (hv : a8P f = some v) : Tri Try.prog 141 [.ptr q.x 0 0] (frL p f q) (fun r L' => r = .int .u64 v ∧ L' = frL p f q) := by
 refine j9 mixed c3N zS [] (fun R S hS => ?_)
 refine aU ?_
 refine f5 hS rfl (.head _) (v := .cptr (Func.av f.f).cells 0) rfl ?_
 refine aU ?_
 unfold a8P at hv
 refine d9 (t := decide (f.f.Keep < 0)) rfl (fun hk => ?_) (fun hk => ?_)
 ·rw [if_pos (of_decide_eq_true hk)] at hv; cases hv
  refine aU ?_
  refine f9 ?_
  (repeat (first | refine i9 ?_ | refine j2 ?_ | refine j3 rfl ?_ | refine d7 ?_ | refine f7 ?_ | refine i7 ?_))
  exact ⟨trivial, _, rfl, _, ⟨rfl, rfl⟩, hS⟩
 ·rw [if_neg (of_decide_eq_false hk)] at hv
  obtain ⟨h1, h2, h3⟩ := g6 hv
  refine aU ?_
  refine f5 hS rfl (.head _) (v := .ref q.l 0 0 f.lo.length none) rfl ?_
  refine aU ?_
  refine f5 hS rfl (.head _) (v := .cptr (Func.av f.f).cells 0) rfl ?_
  refine aU ?_
  refine u6 rfl rfl f.f.Keep.toNat zO zO ?_
  refine b0x hS (f4 .u64) rfl (.tail _ (.head _)) (n := f.f.Keep.toNat) (fo := 0) (y := v) (by simp [c9]) h3 (v := .int .u64 v) rfl ?_
  refine aU ?_
  refine f9 ?_
  (repeat (first | refine i9 ?_ | refine j2 ?_ | refine j3 rfl ?_ | refine d7 ?_ | refine f7 ?_ | refine i7 ?_))
  exact ⟨trivial, _, rfl, _, ⟨rfl, rfl⟩, hS⟩
def SFr.back (p : Program) (f : SFr) (v : Int) : Option SFr := (r7 f.f.Code (f.pc - 1)).bind fun i => (r7 p.Funcs i.Arg).bind fun g => some (if g.Result then { f with st := v :: f.st } else f)
theorem b2o {v : Int} {f' : SFr} (hv : f.back p v = some f') (hpc : f.pc < 4611686018427387904) (hl : f.st.length < 1000000000) :
  Tri Try.prog 140 [.ptr q.x 0 0, .int .u64 v] (frL p f q) (fun r L' => ∃ q', q'.x = q.x ∧ q'.l = q.l ∧ L' = frL p f' q') := by
 unfold SFr.back at hv
 obtain ⟨i, hi, hv⟩ := Option.bind_eq_some_iff.1 hv
 obtain ⟨g, hg, hv⟩ := Option.bind_eq_some_iff.1 hv
 have hi1 := (g6 hi).1
 refine j9 mixed c3P zS [] (fun R S hS => ?_)
 refine aU ?_
 refine f5 hS rfl (.head _) (v := .cptr (Program.av p).cells 0) rfl ?_
 refine aU ?_
 refine f5 hS rfl (.head _) (v := .cptr (Func.av f.f).cells 0) rfl ?_
 refine aU ?_
 refine f5 hS rfl (.head _) (v := .int .i64 f.pc) rfl ?_
 refine aU ?_
 refine q9 (esh := some 3) (f := Instr.av) (ys := f.f.Code) (y := i) (k := .i64) (n := f.pc - 1) rfl (by show AV.int .i64 (IntKind.i64.wrap (f.pc - 1)) = _; rw [r9 zO]) hi ?_
 refine aU ?_
 refine q9 (esh := some 5) (f := Func.av) (ys := p.Funcs) (y := g) rfl rfl hg ?_
 refine aU ?_
 refine d9 (t := g.Result) rfl (fun hr => ?_) (fun hr => ?_)
 ·rw [hr] at hv; cases hv
  refine aU ?_
  refine a0d (a8m (a := .cptr (Program.av p).cells 0) (b := .cptr (Func.av f.f).cells 0) (c := .ref q.l 0 0 f.lo.length none) (e := .int .i64 f.pc) (g := .int .i64 f.nu) (x := q.x) (t := q.t) (tv := q.tv) (ex := true) (vs := [v]) (st := f.st) (j := q.tj) hl zS) hS rfl (Spl.cons Pk.here (Spl.cons (Pk.there Pk.here) Spl.nil)) (fun r S L' hL hS => ?_)
  subst hL
  refine aU ?_
  (repeat (first | refine i9 ?_ | refine j2 ?_ | refine j3 rfl ?_ | refine d7 ?_ | refine f7 ?_ | refine i7 ?_))
  exact ⟨trivial, _, rfl, _, ⟨{ q with tv := q.tv + 1, tj := [] }, rfl, rfl, rfl⟩, hS.perm (by repeat (first | exact Spl.nil | refine Spl.cons (by repeat (first | exact Pk.here | apply Pk.there | apply Pk.skip)) ?_ | refine Spl.app (by repeat (first | exact PkC.here | apply PkC.there | apply PkC.skip)) ?_))⟩
 ·rw [hr] at hv; cases hv
  refine aU ?_
  (repeat (first | refine i9 ?_ | refine j2 ?_ | refine j3 rfl ?_ | refine d7 ?_ | refine f7 ?_ | refine i7 ?_))
  exact ⟨trivial, _, rfl, _, ⟨q, rfl, rfl, rfl⟩, hS⟩
def SFr.args (p : Program) (f : SFr) (k : Int) : Option (List Int × SFr) := (r7 p.Funcs k).bind fun g => if 0 ≤ g.Params ∧ g.Params ≤ f.st.length then some ((f.st.take g.Params.toNat).reverse, { f with st := f.st.drop g.Params.toNat }) else none
theorem b2p {k : Int} {ag : List Int} {f' : SFr} (hv : f.args p k = some (ag, f')) (hl : f.st.length < 1000000000) :
  Tri Try.prog 151 [.ptr q.x 0 0, .int .i64 k] (frL p f q) (fun r L' => r = .sl false 1 (ag.map (avI .u64)) ∧ ∃ q', q'.x = q.x ∧ q'.l = q.l ∧ L' = frL p f' q') := by
 unfold SFr.args at hv
 obtain ⟨g, hg, hv⟩ := Option.bind_eq_some_iff.1 hv
 split at hv
 case isFalse => cases hv
 rename_i hP
 obtain ⟨n, hn⟩ : ∃ n : Nat, g.Params = (n : Int) := ⟨g.Params.toNat, by omega⟩
 rw [hn] at hv hP
 simp only [Int.toNat_natCast] at hv
 cases hv
 have hnl : n ≤ f.st.length := by omega
 have hw : IntKind.i64.wrap ((f.st.length : Int) - g.Params) = ((f.st.length - n : Nat) : Int) := by rw [hn, r9 zO]; omega
 have hsp : flat (avI .u64) f.st.reverse = flat (avI .u64) (f.st.drop n).reverse ++ flat (avI .u64) (f.st.take n).reverse := by
  rw [← m6, ← List.reverse_append, List.take_append_drop]
 have hl1 : (flat (avI .u64) (f.st.drop n).reverse).length = f.st.length - n := by rw [(f4 .u64).length]; simp [c9]
 have hl2 : (flat (avI .u64) (f.st.take n).reverse).length = n := by rw [(f4 .u64).length]; simp [c9]; omega
 have hlt : (f.st.take n).reverse.length = n := by simp; omega
 refine j9 mixed c3R zS [] (fun R S hS => ?_)
 refine aU ?_
 refine f5 hS rfl (.head _) (v := .ref q.t q.tv 0 f.st.length none) rfl ?_
 refine aU ?_
 refine f5 hS rfl (.head _) (v := .cptr (Program.av p).cells 0) rfl ?_
 refine aU ?_
 refine q9 (esh := some 5) (f := Func.av) (ys := p.Funcs) (y := g) rfl rfl hg ?_
 refine aU ?_
 refine f5 hS rfl (.head _) (v := .ref q.t q.tv 0 f.st.length none) rfl ?_
 refine aU ?_
 refine b2m (n := f.st.length) (a := f.st.length - n) rfl (by show loN (some (AV.int .i64 (IntKind.i64.wrap ((f.st.length : Int) - g.Params)))) = _; rw [hw]; simp [loN]) zO (fun w hsrc => ?_)
 obtain ⟨rdx, hsrc⟩ := hsrc S _ (hS.at (.tail _ (.tail _ (.head _))))
 rw [hsp, List.append_assoc, ← hl1, List.drop_left, hl1, show f.st.length - (f.st.length - n) = (flat (avI .u64) (f.st.take n).reverse).length by omega, List.take_left, hl2] at hsrc
 refine b8A (esh := none) (f := avI .u64) (l := []) (m := (f.st.take n).reverse) (f4 .u64) rfl (.inl ⟨rfl, rfl⟩) (rdx := rdx) (by show a5z none w S = some ((f.st.take n).reverse.length, _, rdx); rw [hlt, hsrc]) (by rw [hlt]; simp; omega) ?_
 refine aU ?_
 refine f5 hS rfl (.head _) (v := .ref q.t q.tv 0 f.st.length none) rfl ?_
 refine aU ?_
 refine a2F (a := 0) (b := f.st.length - n) rfl rfl (by show hiN f.st.length (some (.int .i64 (IntKind.i64.wrap ((f.st.length : Int) - g.Params)))) = _; rw [hw, z0 zO]; simp) ⟨by omega, by omega, .inl rfl⟩ ?_
 refine aU ?_
 refine E_stS hS rfl (xv := .ref q.t q.tv 0 (f.st.length - n) none) (by show AV.ref q.t q.tv (0 + 0 * c9 none) (f.st.length - n - 0) none = _; simp) Rp.here rfl rfl (by first | exact Nat.le_of_ble_eq_true rfl | (simp; omega) | omega) (fun S hS => ?_)
 refine aU ?_
 refine f9 ?_
 (repeat (first | refine i9 ?_ | refine j2 ?_ | refine j3 rfl ?_ | refine d7 ?_ | refine f7 ?_ | refine i7 ?_))
 refine ⟨trivial, _, rfl, _, ⟨rfl, { q with tj := flat (avI .u64) (f.st.take n).reverse ++ q.tj }, rfl, rfl, rfl⟩, ?_⟩
 rw [hsp, List.append_assoc] at hS
 show Sep S ((q.x, 0, [AV.cptr (Program.av p).cells 0, .cptr (Func.av f.f).cells 0, .ref q.l 0 0 f.lo.length none, .ref q.t q.tv 0 (f.st.drop n).length none, .int .i64 f.pc, .int .i64 f.nu]) :: _)
 rw [List.length_drop]
 exact hS
end
end Go.Proofs.Ytnpemocpfdgaoaa

/- core.M's Len, sem.Run's Make: the walks. -/
namespace Go.Ab
section
variable {P : Program} {S0 : List Ob} {ow : List Nat} {fr : Fr} {S : List Ob} {log : List LE} {L L' : List It}
theorem c0f {d s x rs} {K : Fr → List Ob → List LE → Prop} {esh : Option Nat} {o ver n m : Nat} {cs ys : List AV} {rdx : List Nat} (hS : Sep S L) (e : ev (Fr.get fr) s = .ref o ver 0 m esh) (e2 : a5z esh (ev (Fr.get fr) x) S = some (n, ys, rdx)) (hn : n ≤ m)
  (h1 : ys.all AV.one = true) (hr : Rp L (o, ver, cs) (o, ver, splice cs 0 ys) L')
  (h : ∀ S', Sep S' L' → VTops P ow rs ((d, .int .i64 n) :: fr) S' (.acc (o :: rdx) (some o) :: log) K) : VTops P ow (⟨some d, none, .op (.cpy esh s x)⟩ :: rs) fr S log K := by
 have ho := hS.at hr.mem
 refine a0C (v := .int .i64 n) (rd := rdx) (δ := some (o, .arr ver (splice cs 0 ys))) ?_ rfl rfl (h _ (hS.rp hr))
 simp only [opV, c2P, e, e2, Option.bind_some, h1, if_true]
 rw [if_pos ⟨trivial, hn⟩]
 simp only [p8, ho, if_true, Option.map_some]
theorem a6A {ag : List Int} {n : Nat} (h : ag.length ≤ n) : splice (flat (avI .u64) (List.replicate n 0)) 0 (flat (avI .u64) ag) = flat (avI .u64) (ag ++ List.replicate (n - ag.length) 0) := by
 have h1 : ∀ l : List Int, (flat (avI .u64) l).length = l.length := fun l => by rw [(f4 .u64).length]; simp [c9]
 have h2 : List.replicate n (0 : Int) = List.replicate ag.length 0 ++ List.replicate (n - ag.length) 0 := by rw [List.replicate_append_replicate]; congr 1; omega
 have h3 := a4e (flat (avI .u64) ag) (a := []) (c := flat (avI .u64) (List.replicate ag.length (0 : Int))) (b := flat (avI .u64) (List.replicate (n - ag.length) (0 : Int))) (fo := 0) (by simp [h1])
 have h4 := a5c (flat (avI .u64) ag) [] (flat (avI .u64) (List.replicate ag.length (0 : Int))) (by simp [h1])
 simp only [List.nil_append, List.length_nil, Nat.zero_add] at h3 h4
 rw [h2, m6, m6, h3, h4]
end
end Go.Ab
namespace Go.Proofs.Ytnpemocpfdgaoaa
open Go Go.Ab
set_option maxRecDepth 20000
set_option maxHeartbeats 2000000
def c3V : FC := .reg [⟨(some 2), none, .op (.mv (.v (.int .i64 0)))⟩] []
def c3W : FC := .reg [⟨(some 3), none, .op (.mv (.t 0))⟩,  ⟨(some 4), none, .op (.nchk (.t 3))⟩,  ⟨(some 5), none, .op (.fad 8 (.t 4))⟩,  ⟨(some 6), none, .op (.load none (.t 5))⟩,  ⟨(some 7), none, .op (.len .sl (.t 6))⟩,  ⟨(some 2), none, .op (.mv (.t 7))⟩] []
def c3X : FC := .seq c3W FC.ret
def c3Y : FC := .seq c3V c3X
def c7f : FC := c3Y
theorem c7g : Fn3 Try.prog 42 8 [(2, none)] c7f := ⟨_, _, Try.func42, rfl, rfl, rfl, by kernel_rfl⟩

def c3Z : FC := .reg [⟨(some 7), none, .op (.mv (.v .nili))⟩] []
def c4a : FC := .reg [⟨(some 10), none, .op (.fad 0 (.t 3))⟩,  ⟨(some 11), none, .op (.load none (.t 10))⟩,  ⟨(some 12), none, .op (.mv (.t 1))⟩,  ⟨(some 13), none, .op (.iad none (some 5) (.t 11) (.t 12))⟩,  ⟨(some 8), none, .op (.mv (.t 13))⟩] []
def c4b : FC := .reg [⟨(some 14), none, .op (.mv (.t 8))⟩,  ⟨(some 15), none, .op (.mv (.t 8))⟩,  ⟨(some 16), none, .op (.nchk (.t 15))⟩,  ⟨(some 17), none, .op (.fad 1 (.t 16))⟩,  ⟨(some 18), none, .op (.load none (.t 17))⟩,  ⟨(some 19), none, .op (.len .sl (.t 18))⟩,  ⟨(some 20), none, .op (.mksl none 8 [(.int .u64 0)] (.t 19) (.t 19))⟩,  ⟨(some 21), none, .op (.mv (.t 0))⟩,  ⟨(some 22), none, .call 42 [(.t 21)]⟩,  ⟨(some 23), none, .op (.bin .none .sub (.t 22) (.v (.int .i64 1)))⟩,  ⟨(some 24), none, .op (.build [.nilp, .nilp, .nils, .nils, (.int .i64 0), (.int .i64 0)] [(0, 1, (.t 3)), (1, 1, (.t 14)), (2, 1, (.t 20)), (5, 1, (.t 23))])⟩,  ⟨(some 25), none, .op (.box (.t 24))⟩,  ⟨(some 9), none, .op (.mv (.t 25))⟩] [(4, 8), (6, 8)]
def c4c : FC := .reg [⟨(some 26), none, .op (.mv (.t 9))⟩,  ⟨(some 27), none, .op (.nchk (.t 26))⟩,  ⟨(some 28), none, .op (.fad 2 (.t 27))⟩,  ⟨(some 29), none, .op (.load none (.t 28))⟩,  ⟨(some 30), none, .op (.mv (.t 2))⟩,  ⟨(some 31), none, .op (.cpy none (.t 29) (.t 30))⟩] []
def c4d : FC := .reg [⟨(some 32), none, .op (.mv (.t 9))⟩,  ⟨(some 33), none, .op (.mki 128 (.t 32))⟩,  ⟨(some 7), none, .op (.mv (.t 33))⟩] []
def c4e : FC := .seq c4d FC.ret
def c4f : FC := .seq c4c c4e
def c4g : FC := .seq c4b c4f
def c4h : FC := .seq c4a c4g
def c0g : FC := .seq c3Z c4h
def c7h : FC := c0g
theorem c7i : Fn3 Try.prog 41 34 [(7, none)] c7h := ⟨_, _, Try.func41, rfl, rfl, rfl, by kernel_rfl⟩

section
variable {a0 a1 a2 a3 a4 a5 a6 a7 a9 a10 : AV} {m ro rv n : Nat} {p : Program}
theorem b4n : b1y Try.prog 42 [.ptr m 0 0] [(m, 0, [a0, a1, a2, a3, a4, a5, a6, a7, .ref ro rv 0 n none, a9, a10])] (.int .i64 n) := by
 refine a3k mixed c7g zS [] (fun R S hS => ?_)
 refine aU ?_
 refine f5 hS rfl (.head _) (v := .ref ro rv 0 n none) rfl ?_
 refine aU ?_
 refine f9 ?_
 (repeat (first | refine i9 ?_ | refine j2 ?_ | refine j3 rfl ?_ | refine d7 ?_ | refine f7 ?_ | refine i7 ?_))
 exact ⟨trivial, _, rfl, rfl, rfl⟩
def a0R (p : Program) (k : Int) (ag : List Int) (n : Nat) : Option SFr := (r7 p.Funcs k).bind fun g => if ag.length ≤ g.Locals.length then some ⟨g, ag ++ List.replicate (g.Locals.length - ag.length) 0, [], 0, (n : Int) - 1⟩ else none
theorem b2q {k : Int} {ag : List Int} {f : SFr} (hv : a0R p k ag n = some f) (hn : n < 1000000000) (hl : f.f.Locals.length < 1000000000) :
  Tri Try.prog 41 [.ptr m 0 0, .int .i64 k, .sl false 1 (ag.map (avI .u64)), .cptr (Program.av p).cells 0] [(m, 0, [a0, a1, a2, a3, a4, a5, a6, a7, .ref ro rv 0 n none, a9, a10])]
   (fun r L' => ∃ q, r = .iface 128 (.ptr q.x 0 0) ∧ L' = frL p f q ++ [(m, 0, [a0, a1, a2, a3, a4, a5, a6, a7, .ref ro rv 0 n none, a9, a10])]) := by
 unfold a0R at hv
 obtain ⟨g, hg, hv⟩ := Option.bind_eq_some_iff.1 hv
 split at hv
 case isFalse => cases hv
 rename_i hgl
 cases hv
 have hw : IntKind.i64.wrap ((n : Int) - 1) = (n : Int) - 1 := by rw [r9 zO]
 refine j9 mixed c7i zS [20, 25] (fun R S hS => ?_)
 refine aU ?_
 refine q9 (esh := some 5) (f := Func.av) (ys := p.Funcs) (y := g) rfl rfl hg ?_
 refine aU ?_
 refine a1r ?_
 refine aU ?_
 refine c3v (f := avI .u64) (x := (0 : Int)) (n := g.Locals.length) (n' := g.Locals.length) hS (f4 .u64) rfl rfl rfl rfl (by simp at hl; omega) (fun l S hS => ?_)
 refine aU ?_
 have hlm : m ≠ l := fun e => (List.nodup_cons.1 hS.2).1 (by rw [← e]; simp)
 refine b3V b4n hS rfl (Spl.cons (Pk.there Pk.here) Spl.nil) ?_
 refine aU ?_
 refine b0u hS rfl (xv := .agg [.cptr (Program.av p).cells 0, .cptr (Func.av g).cells 0, .ref l 0 0 g.Locals.length none, .nils, .int .i64 0, .int .i64 ((n : Int) - 1)]) (by show AV.agg [_, _, _, _, _, .int .i64 (IntKind.i64.wrap ((n : Int) - 1))] = _; rw [hw]; rfl) rfl (fun x S hS => ?_)
 refine aU ?_
 refine And.intro (by simp [a0g, a5y, x7, a0B, hlm, Ne.symm hlm]) ?_
 refine b3T 3 none (Lf := fun o' => (x, 0, [.cptr (Program.av p).cells 0, .cptr (Func.av g).cells 0, .ref l 0 0 g.Locals.length none, .ref o' 0 0 0 none, .int .i64 0, .int .i64 ((n : Int) - 1)]) :: (l, 0, flat (avI .u64) (List.replicate (g.Locals.length : Int).toNat 0)) :: (m, 0, [a0, a1, a2, a3, a4, a5, a6, a7, .ref ro rv 0 n none, a9, a10]) :: R) hS (fun o' => Rp.here) rfl (fun t S hS => ?_)
 refine aU ?_
 refine f5 hS rfl (.tail _ (.head _)) (v := .ref l 0 0 g.Locals.length none) rfl ?_
 refine aU ?_
 refine c0f (n := ag.length) (ys := flat (avI .u64) ag) (L' := (t, 0, []) :: (x, 0, [.cptr (Program.av p).cells 0, .cptr (Func.av g).cells 0, .ref l 0 0 g.Locals.length none, .ref t 0 0 0 none, .int .i64 0, .int .i64 ((n : Int) - 1)]) :: (l, 0, flat (avI .u64) (ag ++ List.replicate (g.Locals.length - ag.length) 0)) :: (m, 0, [a0, a1, a2, a3, a4, a5, a6, a7, .ref ro rv 0 n none, a9, a10]) :: R) hS rfl (u9 (f := avI .u64) (esh := none) ag) hgl ((f4 .u64).all _) (by
  rw [Int.toNat_natCast]
  refine Rp.there (Rp.there ?_)
  show Rp _ _ (l, 0, splice (flat (avI .u64) (List.replicate g.Locals.length 0)) 0 (flat (avI .u64) ag)) _
  rw [a6A hgl]; exact Rp.here) (fun S hS => ?_)
 refine aU ?_
 refine f9 ?_
 (repeat (first | refine i9 ?_ | refine j2 ?_ | refine j3 rfl ?_ | refine d7 ?_ | refine f7 ?_ | refine i7 ?_))
 have hlo : (ag ++ List.replicate (g.Locals.length - ag.length) (0 : Int)).length = g.Locals.length := by simp; omega
 refine ⟨trivial, _, rfl, _, ⟨⟨x, l, t, 0, []⟩, rfl, rfl⟩, ?_⟩
 show Sep S ([(x, 0, [AV.cptr (Program.av p).cells 0, .cptr (Func.av g).cells 0, .ref l 0 0 (ag ++ List.replicate (g.Locals.length - ag.length) (0 : Int)).length none, .ref t 0 0 0 none, .int .i64 0, .int .i64 ((n : Int) - 1)]), (l, 0, flat (avI .u64) (ag ++ List.replicate (g.Locals.length - ag.length) 0)), (t, 0, []), (m, 0, _)] ++ R)
 rw [hlo]
 exact hS.perm (Spl.cons (Pk.there Pk.here) (Spl.cons (Pk.there Pk.here) (Spl.cons Pk.here (.refl _))))
end
end Go.Proofs.Ytnpemocpfdgaoaa

/- core.M's push: the walk. -/
namespace Go.Proofs.Ytnpemocpfdgaoaa
open Go Go.Ab
set_option maxRecDepth 20000
set_option maxHeartbeats 2000000
def c4i : FC := .reg [⟨(some 9), none, .op (.mv (.t 3))⟩,  ⟨(some 10), none, .op (.build [.nili, (.int .i64 0), .nils, (.int .u64 0)] [(1, 1, (.t 9))])⟩,  ⟨(some 11), none, .op (.box (.t 10))⟩,  ⟨(some 8), none, .op (.mv (.t 11))⟩] []
def c4j : FC := .reg [⟨(some 12), none, .op (.mv (.t 0))⟩,  ⟨(some 13), none, .op (.mv (.t 0))⟩,  ⟨(some 14), none, .op (.nchk (.t 13))⟩,  ⟨(some 15), none, .op (.fad 8 (.t 14))⟩,  ⟨(some 16), none, .op (.load none (.t 15))⟩,  ⟨(some 17), none, .op (.mv (.t 8))⟩,  ⟨(some 18), none, .op (.bsl none [.nilp] 1 [(0, 1, (.t 17))])⟩,  ⟨(some 19), none, .op (.app none 8 (.t 16) (.t 18))⟩,  ⟨(some 20), none, .op (.nchk (.t 12))⟩,  ⟨(some 21), none, .op (.fad 8 (.t 20))⟩,  ⟨none, none, .op (.store 1 (.t 21) (.t 19))⟩] []
def c4k : FC := .reg [⟨(some 22), none, .op (.mv (.t 0))⟩,  ⟨(some 23), none, .op (.mv (.t 0))⟩,  ⟨(some 24), none, .op (.nchk (.t 23))⟩,  ⟨(some 25), none, .op (.fad 5 (.t 24))⟩,  ⟨(some 26), none, .op (.load none (.t 25))⟩,  ⟨(some 27), none, .op (.mv (.t 0))⟩,  ⟨(some 28), none, .op (.nchk (.t 27))⟩,  ⟨(some 29), none, .op (.fad 8 (.t 28))⟩,  ⟨(some 30), none, .op (.load none (.t 29))⟩,  ⟨(some 31), none, .op (.len .sl (.t 30))⟩,  ⟨(some 32), none, .op (.mn true (.t 26) (.t 31))⟩,  ⟨(some 33), none, .op (.nchk (.t 22))⟩,  ⟨(some 34), none, .op (.fad 5 (.t 33))⟩,  ⟨none, none, .op (.store 1 (.t 34) (.t 32))⟩] []
def c4l : FC := .reg [⟨(some 35), none, .op (.mv (.t 8))⟩,  ⟨(some 36), none, .op (.mv (.t 0))⟩,  ⟨(some 37), none, .op (.nchk (.t 36))⟩,  ⟨(some 38), none, .op (.fad 1 (.t 37))⟩,  ⟨(some 39), none, .op (.load none (.t 38))⟩,  ⟨(some 40), none, .op (.mv (.t 0))⟩,  ⟨(some 41), none, .op (.mv (.t 1))⟩,  ⟨(some 42), none, .op (.mv (.t 2))⟩,  ⟨(some 43), none, .callv (.t 39) [(.t 40), (.t 41), (.t 42)]⟩,  ⟨(some 44), none, .op (.nchk (.t 35))⟩,  ⟨(some 45), none, .op (.fad 0 (.t 44))⟩,  ⟨none, none, .op (.store 1 (.t 45) (.t 43))⟩] []
def c4m : FC := .seq c4k c4l
def c4n : FC := .seq c4j c4m
def c4o : FC := .seq c4i c4n
def c7j : FC := c4o
theorem c7k : Fn3 Try.prog 98 46 [] c7j := ⟨_, _, Try.func98, rfl, rfl, rfl, by kernel_rfl⟩

def c4p : FC := .reg [⟨(some 6), none, .op (.mv (.t 0))⟩,  ⟨(some 7), none, .op (.mv (.t 1))⟩,  ⟨(some 8), none, .op (.mv (.t 2))⟩,  ⟨(some 9), none, .call 98 [(.t 6), (.t 7), (.t 8), (.v (.int .i64 0))]⟩] []
def c7l : FC := c4p
theorem c7m : Fn3 Try.prog 67 10 [] c7l := ⟨_, _, Try.func67, rfl, rfl, rfl, by kernel_rfl⟩

section
variable {a0 a2 a3 a4 a6 a7 a9 a10 : AV} {m ro rv n : Nat} {p : Program} {rc rj : List AV} {dep w k : Int} {ag : List Int} {f : SFr}
theorem a6B (hv : a0R p k ag (n + 1) = some f) (hn : n < 100000000) (hl : f.f.Locals.length < 1000000000) (hrc : rc.length = n) (hd : 0 ≤ dep ∧ dep < 1000000000) :
  Tri Try.prog 98 [.ptr m 0 0, .int .i64 k, .sl false 1 (ag.map (avI .u64)), .int .i64 w] [(m, 0, [a0, mkA p, a2, a3, a4, .int .i64 dep, a6, a7, .ref ro rv 0 n none, a9, a10]), (ro, rv, rc ++ rj)]
   (fun r L' => ∃ s d q, L' = [(m, 0, [a0, mkA p, a2, a3, a4, .int .i64 (max dep ((n : Int) + 1)), a6, a7, .ref ro (rv + 1) 0 (n + 1) none, a9, a10]), (ro, rv + 1, rc ++ [.ptr s 0 0])] ++ a0a p ⟨⟨f, w, [], 0⟩, s, d, 0, [], q⟩) := by
 refine j9 mixed c7k zS [11] (fun R S hS => ?_)
 refine aU ?_
 refine b0u hS rfl (xv := .agg [.nili, .int .i64 w, .nils, .int .u64 0]) rfl rfl (fun s S hS => ?_)
 refine aS ?_
 refine b9 ?_
 refine b3T 2 (some 2) (Lf := fun o' => (s, 0, [.nili, .int .i64 w, .ref o' 0 0 0 (some 2), .int .u64 0]) :: (m, 0, [a0, mkA p, a2, a3, a4, .int .i64 dep, a6, a7, .ref ro rv 0 n none, a9, a10]) :: (ro, rv, rc ++ rj) :: R) hS (fun o' => Rp.here) rfl (fun d S hS => ?_)
 refine aU ?_
 refine f5 hS rfl (.tail _ (.tail _ (.head _))) (v := .ref ro rv 0 n none) rfl ?_
 refine aU ?_
 refine c3D (o := ro) (ver := rv) (n := n) (m := 1) (cs := rc) (j := rj) (ys := [.ptr s 0 0]) hS rfl (rdx := []) rfl (Rp.there (Rp.there (Rp.there Rp.here))) (by simp [c9, hrc]) rfl zO (fun S hS => ?_)
 refine aU ?_
 refine E_stS hS rfl (xv := .ref ro (rv + 1) 0 (n + 1) none) rfl (Rp.there (Rp.there Rp.here)) rfl rfl (by first | exact Nat.le_of_ble_eq_true rfl | (simp; omega) | omega) (fun S hS => ?_)
 refine aU ?_
 refine f5 hS rfl (.tail _ (.tail _ (.head _))) (v := .int .i64 dep) rfl ?_
 refine aU ?_
 refine f5 hS rfl (.tail _ (.tail _ (.head _))) (v := .ref ro (rv + 1) 0 (n + 1) none) rfl ?_
 refine aU ?_
 have hmx : (if ((n + 1 : Nat) : Int) > dep then ((n + 1 : Nat) : Int) else dep) = max dep ((n : Int) + 1) := by split <;> omega
 refine E_stS hS rfl (xv := .int .i64 (max dep ((n : Int) + 1))) (by show AV.int .i64 (if true = true then if ((n + 1 : Nat) : Int) > dep then ((n + 1 : Nat) : Int) else dep else _) = _; rw [if_pos rfl, hmx]) (Rp.there (Rp.there Rp.here)) rfl rfl (by first | exact Nat.le_of_ble_eq_true rfl | (simp; omega) | omega) (fun S hS => ?_)
 refine aU ?_
 refine f5 hS rfl (.tail _ (.tail _ (.head _))) (v := mkA p) rfl ?_
 refine aU ?_
 refine b2j (b2q (m := m) (p := p) (a0 := a0) (a1 := mkA p) (a2 := a2) (a3 := a3) (a4 := a4) (a5 := .int .i64 (max dep ((n : Int) + 1))) (a6 := a6) (a7 := a7) (a9 := a9) (a10 := a10) (ro := ro) (rv := rv + 1) (n := n + 1) (k := k) (ag := ag) hv zO hl) hS rfl rfl rfl (Spl.cons (Pk.there (Pk.there Pk.here)) Spl.nil) (fun r S L' hL hS => ?_)
 obtain ⟨q, rfl, rfl⟩ := hL
 refine aU ?_
 refine E_stS hS rfl (xv := .iface 128 (.ptr q.x 0 0)) rfl (Rp.there (Rp.there (Rp.there (Rp.there (Rp.there Rp.here))))) rfl rfl (by first | exact Nat.le_of_ble_eq_true rfl | (simp; omega) | omega) (fun S hS => ?_)
 refine aU ?_
 (repeat (first | refine i9 ?_ | refine j2 ?_ | refine j3 rfl ?_ | refine d7 ?_ | refine f7 ?_ | refine i7 ?_))
 refine ⟨trivial, _, rfl, _, ⟨s, d, q, rfl⟩, ?_⟩
 have hS2 : Sep S ((q.x, 0, frC p f q) :: (q.l, 0, flat (avI .u64) f.lo) :: (q.t, q.tv, flat (avI .u64) f.st.reverse ++ q.tj) :: (m, 0, [a0, mkA p, a2, a3, a4, .int .i64 (max dep ((n : Int) + 1)), a6, a7, .ref ro (rv + 1) 0 (n + 1) none, a9, a10]) :: (d, 0, []) :: (s, 0, [.iface 128 (.ptr q.x 0 0), .int .i64 w, .ref d 0 0 0 (some 2), .int .u64 0]) :: (ro, rv + 1, rc ++ [.ptr s 0 0]) :: R) := hS
 exact hS2.perm (Spl.cons (Pk.there (Pk.there (Pk.there Pk.here))) (Spl.cons (Pk.there (Pk.there (Pk.there (Pk.there (Pk.there Pk.here))))) (Spl.cons (Pk.there (Pk.there (Pk.there (Pk.there Pk.here)))) (Spl.cons (Pk.there (Pk.there (Pk.there Pk.here))) (.refl _)))))
theorem a6C (hv : a0R p k ag (n + 1) = some f) (hn : n < 100000000) (hl : f.f.Locals.length < 1000000000) (hrc : rc.length = n) (hd : 0 ≤ dep ∧ dep < 1000000000) :
  Tri Try.prog 67 [.ptr m 0 0, .int .i64 k, .sl false 1 (ag.map (avI .u64))] [(m, 0, [a0, mkA p, a2, a3, a4, .int .i64 dep, a6, a7, .ref ro rv 0 n none, a9, a10]), (ro, rv, rc ++ rj)]
   (fun r L' => ∃ s d q, L' = [(m, 0, [a0, mkA p, a2, a3, a4, .int .i64 (max dep ((n : Int) + 1)), a6, a7, .ref ro (rv + 1) 0 (n + 1) none, a9, a10]), (ro, rv + 1, rc ++ [.ptr s 0 0])] ++ a0a p ⟨⟨f, 0, [], 0⟩, s, d, 0, [], q⟩) := by
 refine j9 mixed c7m zS [] (fun R S hS => ?_)
 refine c7 ?_
 refine aS ?_
 refine a0d (a6B (w := 0) hv hn hl hrc hd) hS rfl (Spl.cons Pk.here (Spl.cons Pk.here Spl.nil)) (fun r S L' hL hS => ?_)
 refine aU ?_
 (repeat (first | refine i9 ?_ | refine j2 ?_ | refine j3 rfl ?_ | refine d7 ?_ | refine f7 ?_ | refine i7 ?_))
 exact ⟨trivial, _, rfl, _, hL, hS⟩
end
end Go.Proofs.Ytnpemocpfdgaoaa

/- core.M's next, Defer: the walks. -/
namespace Go.Ab
theorem a3z {a b : List AV} {x : AV} (hx : x.one = true) {i : Nat} (hi : i = a.length) : z7 none (a ++ x :: b) (0 + i * c9 none) = some x := by
 subst hi
 rw [show 0 + a.length * c9 none = a.length by simp [c9]]
 unfold z7
 simp
theorem b2r {m r o s d : It} {A R : List It} : List.Perm (m :: r :: (A ++ (o :: s :: d :: R))) (o :: ((([m, r] ++ [s, d]) ++ A) ++ R)) :=
 Spl.cons (Pk.there (Pk.there (Pk.skip Pk.here))) (Spl.cons Pk.here (Spl.cons Pk.here (Spl.cons (Pk.skip Pk.here) (Spl.cons (Pk.skip Pk.here) (.refl _)))))
theorem a0S {n : Nat} (h : n < 1000000000) : IntKind.i64.wrap (((n + 1 : Nat) : Int) - 1) = (n : Int) := by rw [r9 zO]; omega
end Go.Ab
namespace Go.Proofs.Ytnpemocpfdgaoaa
open Go Go.Ab
set_option maxRecDepth 20000
set_option maxHeartbeats 2000000
def c0h : FC := .reg [⟨(some 4), none, .op (.mv (.v (.bool false)))⟩] []
def c0i : FC := .reg [⟨(some 8), none, .op (.mv (.t 0))⟩,  ⟨(some 9), none, .op (.nchk (.t 8))⟩,  ⟨(some 10), none, .op (.fad 8 (.t 9))⟩,  ⟨(some 11), none, .op (.load none (.t 10))⟩,  ⟨(some 12), none, .op (.mv (.t 0))⟩,  ⟨(some 13), none, .op (.nchk (.t 12))⟩,  ⟨(some 14), none, .op (.fad 8 (.t 13))⟩,  ⟨(some 15), none, .op (.load none (.t 14))⟩,  ⟨(some 16), none, .op (.len .sl (.t 15))⟩,  ⟨(some 17), none, .op (.bin .none .sub (.t 16) (.v (.int .i64 1)))⟩,  ⟨(some 18), none, .op (.iad none none (.t 11) (.t 17))⟩,  ⟨(some 19), none, .op (.load none (.t 18))⟩,  ⟨(some 5), none, .op (.mv (.t 19))⟩] []
def c0j : FC := .reg [⟨(some 20), none, .op (.mv (.t 5))⟩,  ⟨(some 21), none, .op (.nchk (.t 20))⟩,  ⟨(some 22), none, .op (.fad 2 (.t 21))⟩,  ⟨(some 23), none, .op (.load none (.t 22))⟩,  ⟨(some 24), none, .op (.len .sl (.t 23))⟩,  ⟨(some 25), none, .op (.bin .none .sub (.t 24) (.v (.int .i64 1)))⟩,  ⟨(some 6), none, .op (.mv (.t 25))⟩] []
def c0k : FC := .reg [⟨(some 26), none, .op (.mv (.t 6))⟩,  ⟨(some 27), none, .op (.bin .none .lss (.t 26) (.v (.int .i64 0)))⟩] []
def c0l : FC := .reg [⟨(some 4), none, .op (.mv (.v (.bool false)))⟩] []
def c0m : FC := .seq c0l FC.ret
def c0n : FC := .cond (.t 27) c0m FC.skip
def c0o : FC := .seq c0k c0n
def c0p : FC := .reg [⟨(some 28), none, .op (.mv (.t 5))⟩,  ⟨(some 29), none, .op (.nchk (.t 28))⟩,  ⟨(some 30), none, .op (.fad 2 (.t 29))⟩,  ⟨(some 31), none, .op (.load none (.t 30))⟩,  ⟨(some 32), none, .op (.mv (.t 6))⟩,  ⟨(some 33), none, .op (.iad none (some 2) (.t 31) (.t 32))⟩,  ⟨(some 34), none, .op (.load (some 2) (.t 33))⟩,  ⟨(some 7), none, .op (.new [(.int .i64 0), .nils])⟩,  ⟨none, none, .op (.store 2 (.t 7) (.t 34))⟩] []
def b4o : FC := .reg [⟨(some 35), none, .op (.mv (.t 5))⟩,  ⟨(some 36), none, .op (.mv (.t 5))⟩,  ⟨(some 37), none, .op (.nchk (.t 36))⟩,  ⟨(some 38), none, .op (.fad 2 (.t 37))⟩,  ⟨(some 39), none, .op (.load none (.t 38))⟩,  ⟨(some 40), none, .op (.mv (.t 6))⟩,  ⟨(some 41), none, .op (.slc (some 2) (.t 39) none (some (.t 40)) none)⟩,  ⟨(some 42), none, .op (.nchk (.t 35))⟩,  ⟨(some 43), none, .op (.fad 2 (.t 42))⟩,  ⟨none, none, .op (.store 1 (.t 43) (.t 41))⟩] []
def b4p : FC := .reg [⟨(some 44), none, .op (.mv (.t 0))⟩,  ⟨(some 45), none, .op (.nchk (.t 44))⟩,  ⟨(some 46), none, .op (.fad 10 (.t 45))⟩,  ⟨(some 47), none, .op (.load none (.t 46))⟩,  ⟨(some 48), none, .op (.bin .none .sub (.t 47) (.v (.int .i64 1)))⟩,  ⟨(some 49), none, .op (.nchk (.t 44))⟩,  ⟨(some 50), none, .op (.fad 10 (.t 49))⟩,  ⟨none, none, .op (.store 1 (.t 50) (.t 48))⟩] []
def b4q : FC := .reg [⟨(some 51), none, .op (.mv (.t 0))⟩,  ⟨(some 52), none, .op (.fad 0 (.t 7))⟩,  ⟨(some 53), none, .op (.load none (.t 52))⟩,  ⟨(some 54), none, .op (.fad 1 (.t 7))⟩,  ⟨(some 55), none, .op (.load none (.t 54))⟩,  ⟨(some 56), none, .op (.mv (.t 1))⟩,  ⟨(some 57), none, .call 98 [(.t 51), (.t 53), (.t 55), (.t 56)]⟩] []
def b4r : FC := .reg [⟨(some 4), none, .op (.mv (.v (.bool true)))⟩] []
def b4s : FC := .seq b4r FC.ret
def b4t : FC := .seq b4q b4s
def b4u : FC := .seq b4p b4t
def b4v : FC := .seq b4o b4u
def b4w : FC := .seq c0p b4v
def b4x : FC := .seq c0o b4w
def b4y : FC := .seq c0j b4x
def b4z : FC := .seq c0i b4y
def b4A : FC := .seq c0h b4z
def c4q : FC := b4A
theorem c0q : Fn3 Try.prog 157 58 [(4, none)] c4q := ⟨_, _, Try.func157, rfl, rfl, rfl, by kernel_rfl⟩

section
variable {a0 a2 a3 a4 a6 a7 a9 a10 : AV} {m ro rv n : Nat} {p : Program} {rc rj : List AV} {dep w live : Int} {z : Row} {f : SFr}
theorem a6D (hz : z.df = []) (hn : n < 100000000) (hrc : rc.length = n) :
  Tri Try.prog 157 [.ptr m 0 0, .int .i64 w] ((m, 0, [a0, mkA p, a2, a3, a4, .int .i64 dep, a6, a7, .ref ro rv 0 (n + 1) none, a9, a10]) :: (ro, rv, rc ++ (.ptr z.s 0 0 :: rj)) :: slL z)
   (fun r L' => r = .bool false ∧ L' = (m, 0, [a0, mkA p, a2, a3, a4, .int .i64 dep, a6, a7, .ref ro rv 0 (n + 1) none, a9, a10]) :: (ro, rv, rc ++ (.ptr z.s 0 0 :: rj)) :: slL z) := by
 refine j9 mixed c0q zS [7] (fun R S hS => ?_)
 refine aU ?_
 refine f5 hS rfl (.head _) (v := .ref ro rv 0 (n + 1) none) rfl ?_
 refine aU ?_
 refine f5 hS rfl (.head _) (v := .ref ro rv 0 (n + 1) none) rfl ?_
 refine aU ?_
 refine u6 rfl rfl n (a0S zO) zO ?_
 refine f5 hS rfl (.tail _ (.head _)) (v := .ptr z.s 0 0) (a3z rfl hrc.symm) ?_
 refine aU ?_
 refine f5 hS rfl (.tail _ (.tail _ (.head _))) (v := .ref z.d z.dv 0 z.df.length (some 2)) rfl ?_
 refine aU ?_
 refine d9 (t := true) (by show AV.bool (decide (IntKind.i64.wrap ((z.df.length : Int) - 1) < 0)) = _; rw [hz]; rfl) (fun _ => ?_) (fun h => by cases h)
 refine aU ?_
 refine f9 ?_
 (repeat (first | refine i9 ?_ | refine j2 ?_ | refine j3 rfl ?_ | refine d7 ?_ | refine f7 ?_ | refine i7 ?_))
 exact ⟨trivial, _, rfl, _, ⟨rfl, rfl⟩, hS⟩
theorem a6E {x : a0J} {df : List a0J} (hz : z.df = x :: df) (hv : a0R p x.f x.args (n + 2) = some f) (hn : n < 10000000) (hl : f.f.Locals.length < 1000000000) (hrc : rc.length = n) (hd : 0 ≤ dep ∧ dep < 1000000000) (hdf : df.length < 100000000) (hlv : 0 < live ∧ live < 1000000000) :
  Tri Try.prog 157 [.ptr m 0 0, .int .i64 w] ((m, 0, [a0, mkA p, a2, a3, a4, .int .i64 dep, a6, a7, .ref ro rv 0 (n + 1) none, a9, .int .i64 live]) :: (ro, rv, rc ++ (.ptr z.s 0 0 :: rj)) :: slL z)
   (fun r L' => r = .bool true ∧ ∃ s d q, L' = ([(m, 0, [a0, mkA p, a2, a3, a4, .int .i64 (max dep ((n : Int) + 2)), a6, a7, .ref ro (rv + 1) 0 (n + 2) none, a9, .int .i64 (live - 1)]), (ro, rv + 1, rc ++ [.ptr z.s 0 0, .ptr s 0 0])] ++ slL { z with df := df, dj := x.cells ++ z.dj }) ++ a0a p ⟨⟨f, w, [], 0⟩, s, d, 0, [], q⟩) := by
 have hx : z.df.reverse[df.length]? = some x := by rw [hz, List.reverse_cons, List.getElem?_append_right zS]; simp
 have hlen : z.df.length = df.length + 1 := by rw [hz]; rfl
 refine j9 mixed c0q zS [7] (fun R S hS => ?_)
 refine aU ?_
 refine f5 hS rfl (.head _) (v := .ref ro rv 0 (n + 1) none) rfl ?_
 refine aU ?_
 refine f5 hS rfl (.head _) (v := .ref ro rv 0 (n + 1) none) rfl ?_
 refine aU ?_
 refine u6 rfl rfl n (a0S zO) zO ?_
 refine f5 hS rfl (.tail _ (.head _)) (v := .ptr z.s 0 0) (a3z rfl hrc.symm) ?_
 refine aU ?_
 refine f5 hS rfl (.tail _ (.tail _ (.head _))) (v := .ref z.d z.dv 0 (df.length + 1) (some 2)) (by rw [← hlen]; rfl) ?_
 refine aU ?_
 refine d9 (t := false) (by show AV.bool (decide (IntKind.i64.wrap (((df.length + 1 : Nat) : Int) - 1) < 0)) = _; rw [a0S zO, decide_eq_false zO]) (fun h => by cases h) (fun _ => ?_)
 refine aU ?_
 refine f5 hS rfl (.tail _ (.tail _ (.head _))) (v := .ref z.d z.dv 0 (df.length + 1) (some 2)) (by rw [← hlen]; rfl) ?_
 refine aU ?_
 refine u6 rfl rfl df.length (a0S zO) zO ?_
 refine a7m hS a0J.enc rfl (.tail _ (.tail _ (.tail _ (.head _)))) (n := df.length) (fo := 0) (y := x) zS hx (v := x.av) rfl ?_
 refine b2i hS rfl (fun o S hS => ?_)
 refine E_stS hS rfl (xv := x.av) rfl Rp.here rfl rfl (by first | exact Nat.le_of_ble_eq_true rfl | (simp; omega) | omega) (fun S hS => ?_)
 refine aU ?_
 refine f5 hS rfl (.tail _ (.tail _ (.tail _ (.head _)))) (v := .ref z.d z.dv 0 (df.length + 1) (some 2)) (by rw [← hlen]; rfl) ?_
 refine aU ?_
 refine a2F (a := 0) (b := df.length) rfl rfl (by show hiN (df.length + 1) (some (.int .i64 (IntKind.i64.wrap (((df.length + 1 : Nat) : Int) - 1)))) = _; rw [a0S zO, z0 zO]; simp) ⟨by omega, by omega, .inl rfl⟩ ?_
 refine aU ?_
 refine E_stS hS rfl (xv := .ref z.d z.dv 0 df.length (some 2)) (by show AV.ref z.d z.dv (0 + 0 * c9 (some 2)) (df.length - 0) (some 2) = _; simp) (Rp.there (Rp.there (Rp.there Rp.here))) rfl rfl (by first | exact Nat.le_of_ble_eq_true rfl | (simp; omega) | omega) (fun S hS => ?_)
 refine aU ?_
 refine f5 hS rfl (.tail _ (.head _)) (v := .int .i64 live) rfl ?_
 refine aU ?_
 refine E_stS hS rfl (xv := .int .i64 (live - 1)) (by show AV.int .i64 (IntKind.i64.wrap (live - 1)) = _; rw [r9 zO]) (Rp.there Rp.here) rfl rfl (by first | exact Nat.le_of_ble_eq_true rfl | (simp; omega) | omega) (fun S hS => ?_)
 refine aU ?_
 refine f5 hS rfl (.head _) (v := .int .i64 x.f) rfl ?_
 refine aU ?_
 refine f5 hS rfl (.head _) (v := .sl false 1 (x.args.map (avI .u64))) rfl ?_
 refine aU ?_
 have hS1 : Sep S ((o, 0, x.cells) :: (m, 0, [a0, mkA p, a2, a3, a4, .int .i64 dep, a6, a7, .ref ro rv 0 (n + 1) none, a9, .int .i64 (live - 1)]) :: (ro, rv, (rc ++ [.ptr z.s 0 0]) ++ rj) :: (z.s, 0, [.iface 128 (.ptr z.q.x 0 0), .int .i64 z.why, .ref z.d z.dv 0 df.length (some 2), .int .u64 z.ret]) :: (z.d, z.dv, flat a0J.av z.df.reverse ++ z.dj) :: R) := by rw [List.append_assoc]; exact hS
 refine a0d (a6B (m := m) (a0 := a0) (p := p) (a2 := a2) (a3 := a3) (a4 := a4) (dep := dep) (a6 := a6) (a7 := a7) (a9 := a9) (a10 := .int .i64 (live - 1)) (n := n + 1) (ro := ro) (rv := rv) (rc := rc ++ [.ptr z.s 0 0]) (rj := rj) (w := w) hv zO hl (by simp [hrc]) hd) hS1 rfl (Spl.cons (Pk.there Pk.here) (Spl.cons (Pk.there Pk.here) Spl.nil)) (fun r S L' hL hS => ?_)
 obtain ⟨s, d, q, rfl⟩ := hL
 refine aU ?_
 refine f9 ?_
 (repeat (first | refine i9 ?_ | refine j2 ?_ | refine j3 rfl ?_ | refine d7 ?_ | refine f7 ?_ | refine i7 ?_))
 refine ⟨trivial, _, rfl, _, ⟨rfl, s, d, q, rfl⟩, ?_⟩
 have e1 : max dep (((n + 1 : Nat) : Int) + 1) = max dep ((n : Int) + 2) := by omega
 have e2 : flat a0J.av z.df.reverse ++ z.dj = flat a0J.av df.reverse ++ (x.cells ++ z.dj) := by rw [hz, List.reverse_cons, m6, List.append_assoc]; rfl
 rw [e1, e2, List.append_assoc rc] at hS
 have hS3 := hS.perm (b2r (A := a0a p ⟨⟨f, w, [], 0⟩, s, d, 0, [], q⟩) (R := R) : List.Perm (_ :: _ :: (_ ++ (_ :: _ :: _ :: R))) _)
 exact hS3.sub (List.sublist_cons_self _ _)
end
end Go.Proofs.Ytnpemocpfdgaoaa

/- core.M's Defer, Recover, Panic: the walks. -/
namespace Go.Proofs.Ytnpemocpfdgaoaa
open Go Go.Ab
set_option maxRecDepth 20000
set_option maxHeartbeats 2000000
def c0r : FC := .reg [⟨(some 7), none, .op (.mv (.t 0))⟩,  ⟨(some 8), none, .op (.nchk (.t 7))⟩,  ⟨(some 9), none, .op (.fad 8 (.t 8))⟩,  ⟨(some 10), none, .op (.load none (.t 9))⟩,  ⟨(some 11), none, .op (.mv (.t 0))⟩,  ⟨(some 12), none, .op (.nchk (.t 11))⟩,  ⟨(some 13), none, .op (.fad 8 (.t 12))⟩,  ⟨(some 14), none, .op (.load none (.t 13))⟩,  ⟨(some 15), none, .op (.len .sl (.t 14))⟩,  ⟨(some 16), none, .op (.bin .none .sub (.t 15) (.v (.int .i64 1)))⟩,  ⟨(some 17), none, .op (.iad none none (.t 10) (.t 16))⟩,  ⟨(some 18), none, .op (.load none (.t 17))⟩,  ⟨(some 6), none, .op (.mv (.t 18))⟩] []
def c0s : FC := .reg [⟨(some 19), none, .op (.mv (.t 6))⟩,  ⟨(some 20), none, .op (.mv (.t 6))⟩,  ⟨(some 21), none, .op (.nchk (.t 20))⟩,  ⟨(some 22), none, .op (.fad 2 (.t 21))⟩,  ⟨(some 23), none, .op (.load none (.t 22))⟩,  ⟨(some 24), none, .op (.mv (.t 1))⟩,  ⟨(some 25), none, .op (.mv (.t 2))⟩,  ⟨(some 26), none, .op (.build [(.int .i64 0), .nils] [(0, 1, (.t 24)), (1, 1, (.t 25))])⟩,  ⟨(some 27), none, .op (.bsl (some 2) [(.int .i64 0), .nils] 1 [(0, 2, (.t 26))])⟩,  ⟨(some 28), none, .op (.app (some 2) 32 (.t 23) (.t 27))⟩,  ⟨(some 29), none, .op (.nchk (.t 19))⟩,  ⟨(some 30), none, .op (.fad 2 (.t 29))⟩,  ⟨none, none, .op (.store 1 (.t 30) (.t 28))⟩] []
def c0t : FC := .reg [⟨(some 31), none, .op (.mv (.t 0))⟩,  ⟨(some 32), none, .op (.nchk (.t 31))⟩,  ⟨(some 33), none, .op (.fad 10 (.t 32))⟩,  ⟨(some 34), none, .op (.load none (.t 33))⟩,  ⟨(some 35), none, .op (.bin .none .add (.t 34) (.v (.int .i64 1)))⟩,  ⟨(some 36), none, .op (.nchk (.t 31))⟩,  ⟨(some 37), none, .op (.fad 10 (.t 36))⟩,  ⟨none, none, .op (.store 1 (.t 37) (.t 35))⟩] []
def c0u : FC := .reg [⟨(some 38), none, .op (.mv (.t 0))⟩,  ⟨(some 39), none, .op (.mv (.t 0))⟩,  ⟨(some 40), none, .op (.nchk (.t 39))⟩,  ⟨(some 41), none, .op (.fad 6 (.t 40))⟩,  ⟨(some 42), none, .op (.load none (.t 41))⟩,  ⟨(some 43), none, .op (.mv (.t 0))⟩,  ⟨(some 44), none, .op (.nchk (.t 43))⟩,  ⟨(some 45), none, .op (.fad 10 (.t 44))⟩,  ⟨(some 46), none, .op (.load none (.t 45))⟩,  ⟨(some 47), none, .op (.mn true (.t 42) (.t 46))⟩,  ⟨(some 48), none, .op (.nchk (.t 38))⟩,  ⟨(some 49), none, .op (.fad 6 (.t 48))⟩,  ⟨none, none, .op (.store 1 (.t 49) (.t 47))⟩] []
def c0v : FC := .seq c0t c0u
def c0w : FC := .seq c0s c0v
def c0x : FC := .seq c0r c0w
def c4r : FC := c0x
theorem c4s : Fn3 Try.prog 152 50 [] c4r := ⟨_, _, Try.func152, rfl, rfl, rfl, by kernel_rfl⟩

def c0y : FC := .reg [⟨(some 2), none, .op (.mv (.v (.int .u64 0)))⟩,  ⟨(some 3), none, .op (.mv (.v (.int .u64 0)))⟩] []
def c0z : FC := .reg [⟨(some 5), none, .op (.mv (.t 0))⟩,  ⟨(some 6), none, .op (.nchk (.t 5))⟩,  ⟨(some 7), none, .op (.fad 9 (.t 6))⟩,  ⟨(some 8), none, .op (.load none (.t 7))⟩,  ⟨(some 9), none, .op (.len .sl (.t 8))⟩,  ⟨(some 10), none, .op (.bin .none .sub (.t 9) (.v (.int .i64 1)))⟩,  ⟨(some 4), none, .op (.mv (.t 10))⟩] []
def c0A : FC := .reg [⟨(some 11), none, .op (.mv (.t 0))⟩,  ⟨(some 12), none, .op (.nchk (.t 11))⟩,  ⟨(some 13), none, .op (.fad 8 (.t 12))⟩,  ⟨(some 14), none, .op (.load none (.t 13))⟩,  ⟨(some 15), none, .op (.mv (.t 0))⟩,  ⟨(some 16), none, .op (.nchk (.t 15))⟩,  ⟨(some 17), none, .op (.fad 8 (.t 16))⟩,  ⟨(some 18), none, .op (.load none (.t 17))⟩,  ⟨(some 19), none, .op (.len .sl (.t 18))⟩,  ⟨(some 20), none, .op (.bin .none .sub (.t 19) (.v (.int .i64 1)))⟩,  ⟨(some 21), none, .op (.iad none none (.t 14) (.t 20))⟩,  ⟨(some 22), none, .op (.load none (.t 21))⟩,  ⟨(some 23), none, .op (.nchk (.t 22))⟩,  ⟨(some 24), none, .op (.fad 1 (.t 23))⟩,  ⟨(some 25), none, .op (.load none (.t 24))⟩,  ⟨(some 26), none, .op (.bin .none .neq (.t 25) (.v (.int .i64 2)))⟩,  ⟨(some 27), none, .op (.mv (.t 26))⟩,  ⟨(some 28), some (27, false), .op (.mv (.t 0))⟩,  ⟨(some 29), some (27, false), .op (.nchk (.t 28))⟩,  ⟨(some 30), some (27, false), .op (.fad 9 (.t 29))⟩,  ⟨(some 31), some (27, false), .op (.load none (.t 30))⟩,  ⟨(some 32), some (27, false), .op (.mv (.t 4))⟩,  ⟨(some 33), some (27, false), .op (.iad none (some 2) (.t 31) (.t 32))⟩,  ⟨(some 34), some (27, false), .op (.fad 1 (.t 33))⟩,  ⟨(some 35), some (27, false), .op (.load none (.t 34))⟩,  ⟨(some 36), none, .op (.pick (.t 27) (.v (.bool true)) (.t 35))⟩] []
def c0B : FC := .reg [⟨(some 2), none, .op (.mv (.v (.int .u64 0)))⟩,  ⟨(some 3), none, .op (.mv (.v (.int .u64 0)))⟩] []
def c0C : FC := .seq c0B FC.ret
def c0D : FC := .cond (.t 36) c0C FC.skip
def c0E : FC := .seq c0A c0D
def c0F : FC := .reg [⟨(some 37), none, .op (.mv (.t 0))⟩,  ⟨(some 38), none, .op (.nchk (.t 37))⟩,  ⟨(some 39), none, .op (.fad 9 (.t 38))⟩,  ⟨(some 40), none, .op (.load none (.t 39))⟩,  ⟨(some 41), none, .op (.mv (.t 4))⟩,  ⟨(some 42), none, .op (.iad none (some 2) (.t 40) (.t 41))⟩,  ⟨(some 43), none, .op (.fad 1 (.t 42))⟩,  ⟨none, none, .op (.store 1 (.t 43) (.v (.bool true)))⟩] []
def c0G : FC := .reg [⟨(some 44), none, .op (.mv (.t 0))⟩,  ⟨(some 45), none, .op (.nchk (.t 44))⟩,  ⟨(some 46), none, .op (.fad 9 (.t 45))⟩,  ⟨(some 47), none, .op (.load none (.t 46))⟩,  ⟨(some 48), none, .op (.mv (.t 4))⟩,  ⟨(some 49), none, .op (.iad none (some 2) (.t 47) (.t 48))⟩,  ⟨(some 50), none, .op (.fad 0 (.t 49))⟩,  ⟨(some 51), none, .op (.load none (.t 50))⟩,  ⟨(some 2), none, .op (.mv (.t 51))⟩,  ⟨(some 3), none, .op (.mv (.v (.int .u64 1)))⟩] []
def b4B : FC := .seq c0G FC.ret
def b4C : FC := .seq c0F b4B
def b4D : FC := .seq c0E b4C
def b4E : FC := .seq c0z b4D
def b4F : FC := .seq c0y b4E
def c4t : FC := b4F
theorem c4u : Fn3 Try.prog 154 52 [(2, none), (3, none)] c4t := ⟨_, _, Try.func154, rfl, rfl, rfl, by kernel_rfl⟩

section
variable {a0 a1 a2 a3 a4 a5 a6 a7 a9 a10 : AV} {m ro rv n : Nat} {p : Program} {rc rj : List AV} {dep w k live dfs : Int} {ag : List Int} {z : Row} {f : SFr}
theorem c0H {a b : Int} : (if b > a then b else a) = max a b := by split <;> omega
theorem a8Q (hn : n < 100000000) (hrc : rc.length = n) (hdf : z.df.length < 100000000) (hlv : 0 ≤ live ∧ live < 1000000000) :
  Tri Try.prog 152 [.ptr m 0 0, .int .i64 k, .sl false 1 (ag.map (avI .u64))] ((m, 0, [a0, a1, a2, a3, a4, a5, .int .i64 dfs, a7, .ref ro rv 0 (n + 1) none, a9, .int .i64 live]) :: (ro, rv, rc ++ (.ptr z.s 0 0 :: rj)) :: slL z)
   (fun r L' => L' = (m, 0, [a0, a1, a2, a3, a4, a5, .int .i64 (max dfs (live + 1)), a7, .ref ro rv 0 (n + 1) none, a9, .int .i64 (live + 1)]) :: (ro, rv, rc ++ (.ptr z.s 0 0 :: rj)) :: slL { z with df := ⟨k, ag⟩ :: z.df, dv := z.dv + 1, dj := [] }) := by
 refine j9 mixed c4s zS [] (fun R S hS => ?_)
 refine aU ?_
 refine f5 hS rfl (.head _) (v := .ref ro rv 0 (n + 1) none) rfl ?_
 refine aU ?_
 refine f5 hS rfl (.head _) (v := .ref ro rv 0 (n + 1) none) rfl ?_
 refine aU ?_
 refine u6 rfl rfl n (a0S zO) zO ?_
 refine f5 hS rfl (.tail _ (.head _)) (v := .ptr z.s 0 0) (a3z rfl hrc.symm) ?_
 refine aU ?_
 refine f5 hS rfl (.tail _ (.tail _ (.head _))) (v := .ref z.d z.dv 0 z.df.length (some 2)) rfl ?_
 refine aU ?_
 refine a6z (o := z.d) (ver := z.dv) (f := a0J.av) (l := z.df.reverse) (m := [(⟨k, ag⟩ : a0J)]) (j := z.dj) hS a0J.enc (by show AV.ref z.d z.dv 0 z.df.length _ = _; rw [List.length_reverse]) (u9 (f := a0J.av) (esh := some 2) [(⟨k, ag⟩ : a0J)]) (Rp.there (Rp.there (Rp.there Rp.here))) ⟨by simp; omega, by simp; omega⟩ (fun S hS => ?_)
 refine aU ?_
 refine E_stS hS rfl (xv := .ref z.d (z.dv + 1) 0 (z.df.length + 1) (some 2)) (by show AV.ref z.d (z.dv + 1) 0 (z.df.reverse ++ [(⟨k, ag⟩ : a0J)]).length _ = _; simp) (Rp.there (Rp.there Rp.here)) rfl rfl (by first | exact Nat.le_of_ble_eq_true rfl | (simp; omega) | omega) (fun S hS => ?_)
 refine aU ?_
 refine f5 hS rfl (.head _) (v := .int .i64 live) rfl ?_
 refine aU ?_
 refine E_stS hS rfl (xv := .int .i64 (live + 1)) (by show AV.int .i64 (IntKind.i64.wrap (live + 1)) = _; rw [r9 zO]) Rp.here rfl rfl (by first | exact Nat.le_of_ble_eq_true rfl | (simp; omega) | omega) (fun S hS => ?_)
 refine aU ?_
 refine f5 hS rfl (.head _) (v := .int .i64 dfs) rfl ?_
 refine aU ?_
 refine f5 hS rfl (.head _) (v := .int .i64 (live + 1)) rfl ?_
 refine aU ?_
 refine E_stS hS rfl (xv := .int .i64 (max dfs (live + 1))) (by show AV.int .i64 (if true = true then if live + 1 > dfs then live + 1 else dfs else _) = _; rw [if_pos rfl, c0H]) Rp.here rfl rfl (by first | exact Nat.le_of_ble_eq_true rfl | (simp; omega) | omega) (fun S hS => ?_)
 refine aU ?_
 (repeat (first | refine i9 ?_ | refine j2 ?_ | refine j3 rfl ?_ | refine d7 ?_ | refine f7 ?_ | refine i7 ?_))
 refine ⟨trivial, _, rfl, _, rfl, ?_⟩
 have e1 : flat a0J.av ((⟨k, ag⟩ : a0J) :: z.df).reverse ++ [] = flat a0J.av (z.df.reverse ++ [(⟨k, ag⟩ : a0J)]) := by rw [List.append_nil, List.reverse_cons]
 show Sep S (_ :: _ :: (z.s, 0, _) :: (z.d, z.dv + 1, flat a0J.av ((⟨k, ag⟩ : a0J) :: z.df).reverse ++ []) :: R)
 rw [e1]
 exact hS
end
section
variable {a0 a1 a2 a3 a4 a5 a6 a7 a10 : AV} {m ro rv n po pv : Nat} {p : Program} {rc rj pj : List AV} {z : Row} {pans : List n9}
def a2d (why : Int) (pans : List n9) : (Int × Int) × List n9 := match pans with
 | [] => ((0, 0), [])
 | x :: l => if why ≠ 2 ∨ x.rcv = true then ((0, 0), x :: l) else ((x.v, 1), { x with rcv := true } :: l)
theorem a7o (hn : n < 100000000) (hrc : rc.length = n) (hp : z.why = 2 → pans ≠ []) (hpl : pans.length < 100000000) :
  Tri Try.prog 154 [.ptr m 0 0] ((m, 0, [a0, a1, a2, a3, a4, a5, a6, a7, .ref ro rv 0 (n + 1) none, .ref po pv 0 pans.length (some 2), a10]) :: (ro, rv, rc ++ (.ptr z.s 0 0 :: rj)) :: (po, pv, flat n9.av pans.reverse ++ pj) :: slL z)
   (fun r L' => r = .tup [.int .u64 (a2d z.why pans).1.1, .int .u64 (a2d z.why pans).1.2] ∧ L' = (m, 0, [a0, a1, a2, a3, a4, a5, a6, a7, .ref ro rv 0 (n + 1) none, .ref po pv 0 pans.length (some 2), a10]) :: (ro, rv, rc ++ (.ptr z.s 0 0 :: rj)) :: (po, pv, flat n9.av (a2d z.why pans).2.reverse ++ pj) :: slL z) := by
 refine j9 mixed c4u zS [] (fun R S hS => ?_)
 refine aU ?_
 refine f5 hS rfl (.head _) (v := .ref po pv 0 pans.length (some 2)) rfl ?_
 refine aU ?_
 refine f5 hS rfl (.head _) (v := .ref ro rv 0 (n + 1) none) rfl ?_
 refine aU ?_
 refine f5 hS rfl (.head _) (v := .ref ro rv 0 (n + 1) none) rfl ?_
 refine aU ?_
 refine u6 rfl rfl n (a0S zO) zO ?_
 refine f5 hS rfl (.tail _ (.head _)) (v := .ptr z.s 0 0) (a3z rfl hrc.symm) ?_
 refine aU ?_
 refine f5 hS rfl (.tail _ (.tail _ (.tail _ (.head _)))) (v := .int .i64 z.why) rfl ?_
 by_cases hw : z.why = 2
 ·obtain ⟨x, l, rfl⟩ : ∃ x l, pans = x :: l := by
   cases pans with
   | nil => exact absurd rfl (hp hw)
   | cons x l => exact ⟨x, l, rfl⟩
  have hx : (x :: l).reverse[l.length]? = some x := by rw [List.reverse_cons, List.getElem?_append_right zS]; simp
  simp only [List.length_cons] at hpl
  refine a1v (v' := .bool false) rfl (by show AV.bool (z.why != 2) = _; rw [hw]; rfl) ?_
  refine aU ?_
  refine f5 hS rfl (.head _) (v := .ref po pv 0 (l.length + 1) (some 2)) rfl ?_
  refine aU ?_
  refine u6 rfl rfl l.length (a0S zO) zO ?_
  refine aU ?_
  refine a7m hS n9.enc rfl (.tail _ (.tail _ (.head _))) (n := l.length) (fo := 1) (y := x) zS hx (v := .bool x.rcv) rfl ?_
  refine a0O rfl (v' := .bool x.rcv) rfl ?_
  refine aU ?_
  refine d9 (t := x.rcv) rfl (fun hr => ?_) (fun hr => ?_)
  ·refine aU ?_
   refine f9 ?_
   (repeat (first | refine i9 ?_ | refine j2 ?_ | refine j3 rfl ?_ | refine d7 ?_ | refine f7 ?_ | refine i7 ?_))
   have e : a2d z.why (x :: l) = ((0, 0), x :: l) := by simp [a2d, hr]
   rw [e]
   exact ⟨trivial, _, rfl, _, ⟨rfl, rfl⟩, hS⟩
  ·refine aU ?_
   refine f5 hS rfl (.head _) (v := .ref po pv 0 (l.length + 1) (some 2)) rfl ?_
   refine aU ?_
   refine u6 rfl rfl l.length (a0S zO) zO ?_
   refine aU ?_
   refine b8N (y' := ({ x with rcv := true } : n9)) hS n9.enc rfl rfl (n := l.length) (fo := 1) (y := x) zS hx (Rp.there (Rp.there Rp.here)) rfl rfl (by simp [c9]) rfl (fun S hS => ?_)
   have hset : (x :: l).reverse.set l.length ({ x with rcv := true } : n9) = (({ x with rcv := true } : n9) :: l).reverse := by
    simp [List.set_append]
   rw [hset] at hS
   have hx2 : (({ x with rcv := true } : n9) :: l).reverse[l.length]? = some ({ x with rcv := true } : n9) := by rw [List.reverse_cons, List.getElem?_append_right zS]; simp
   refine aU ?_
   refine f5 hS rfl (.head _) (v := .ref po pv 0 (l.length + 1) (some 2)) rfl ?_
   refine aU ?_
   refine u6 rfl rfl l.length (a0S zO) zO ?_
   refine aU ?_
   refine a7m hS n9.enc rfl (.tail _ (.tail _ (.head _))) (n := l.length) (fo := 0) (y := ({ x with rcv := true } : n9)) zS hx2 (v := .int .u64 x.v) rfl ?_
   refine aU ?_
   refine f9 ?_
   (repeat (first | refine i9 ?_ | refine j2 ?_ | refine j3 rfl ?_ | refine d7 ?_ | refine f7 ?_ | refine i7 ?_))
   have e : a2d z.why (x :: l) = ((x.v, 1), { x with rcv := true } :: l) := by simp [a2d, hr, hw]
   rw [e]
   exact ⟨trivial, _, rfl, _, ⟨rfl, rfl⟩, hS⟩
 ·have hb : (z.why != 2) = true := by simpa using hw
  refine a1v (v' := .bool true) rfl (by show AV.bool (z.why != 2) = _; rw [hb]) ?_
  refine aU ?_
  refine d9 (t := true) rfl (fun _ => ?_) (fun h => by cases h)
  refine aU ?_
  refine f9 ?_
  (repeat (first | refine i9 ?_ | refine j2 ?_ | refine j3 rfl ?_ | refine d7 ?_ | refine f7 ?_ | refine i7 ?_))
  have e : a2d z.why pans = ((0, 0), pans) := by
   unfold a2d
   cases pans with
   | nil => rfl
   | cons x l => simp only; rw [if_pos (.inl hw)]
  rw [e]
  exact ⟨trivial, _, rfl, _, ⟨rfl, rfl⟩, hS⟩
end
end Go.Proofs.Ytnpemocpfdgaoaa

/- core.M's unwind, Panic: the walks. -/
namespace Go.Proofs.Ytnpemocpfdgaoaa
open Go Go.Ab
set_option maxRecDepth 20000
set_option maxHeartbeats 2000000
def c0I : FC := .reg [⟨(some 4), none, .op (.mv (.t 0))⟩,  ⟨(some 5), none, .call 157 [(.t 4), (.v (.int .i64 2))]⟩,  ⟨(some 6), none, .op (.un .not (.t 5))⟩] []
def c0J : FC := .cond (.t 6) FC.skip (FC.exit 0)
def c0K : FC := .seq c0I c0J
def c0L : FC := .reg [⟨(some 7), none, .op (.mv (.t 0))⟩,  ⟨(some 8), none, .op (.nchk (.t 7))⟩,  ⟨(some 9), none, .op (.fad 8 (.t 8))⟩,  ⟨(some 10), none, .op (.load none (.t 9))⟩,  ⟨(some 11), none, .op (.mv (.t 0))⟩,  ⟨(some 12), none, .op (.nchk (.t 11))⟩,  ⟨(some 13), none, .op (.fad 8 (.t 12))⟩,  ⟨(some 14), none, .op (.load none (.t 13))⟩,  ⟨(some 15), none, .op (.len .sl (.t 14))⟩,  ⟨(some 16), none, .op (.bin .none .sub (.t 15) (.v (.int .i64 1)))⟩,  ⟨(some 17), none, .op (.iad none none (.t 10) (.t 16))⟩,  ⟨(some 18), none, .op (.load none (.t 17))⟩,  ⟨(some 2), none, .op (.mv (.t 18))⟩] []
def c0M : FC := .reg [⟨(some 19), none, .op (.mv (.t 0))⟩,  ⟨(some 20), none, .op (.mv (.t 0))⟩,  ⟨(some 21), none, .op (.nchk (.t 20))⟩,  ⟨(some 22), none, .op (.fad 8 (.t 21))⟩,  ⟨(some 23), none, .op (.load none (.t 22))⟩,  ⟨(some 24), none, .op (.mv (.t 0))⟩,  ⟨(some 25), none, .op (.nchk (.t 24))⟩,  ⟨(some 26), none, .op (.fad 8 (.t 25))⟩,  ⟨(some 27), none, .op (.load none (.t 26))⟩,  ⟨(some 28), none, .op (.len .sl (.t 27))⟩,  ⟨(some 29), none, .op (.bin .none .sub (.t 28) (.v (.int .i64 1)))⟩,  ⟨(some 30), none, .op (.slc none (.t 23) none (some (.t 29)) none)⟩,  ⟨(some 31), none, .op (.nchk (.t 19))⟩,  ⟨(some 32), none, .op (.fad 8 (.t 31))⟩,  ⟨none, none, .op (.store 1 (.t 32) (.t 30))⟩] []
def c0N : FC := .reg [⟨(some 33), none, .op (.mv (.t 0))⟩,  ⟨(some 34), none, .op (.nchk (.t 33))⟩,  ⟨(some 35), none, .op (.fad 9 (.t 34))⟩,  ⟨(some 36), none, .op (.load none (.t 35))⟩,  ⟨(some 37), none, .op (.len .sl (.t 36))⟩,  ⟨(some 38), none, .op (.bin .none .sub (.t 37) (.v (.int .i64 1)))⟩,  ⟨(some 3), none, .op (.mv (.t 38))⟩] []
def c0O : FC := .reg [⟨(some 39), none, .op (.mv (.t 2))⟩,  ⟨(some 40), none, .op (.nchk (.t 39))⟩,  ⟨(some 41), none, .op (.fad 1 (.t 40))⟩,  ⟨(some 42), none, .op (.load none (.t 41))⟩,  ⟨(some 43), none, .op (.bin .none .eql (.t 42) (.v (.int .i64 2)))⟩] []
def c0P : FC := .reg [⟨(some 44), none, .op (.mv (.t 0))⟩,  ⟨(some 45), none, .op (.nchk (.t 44))⟩,  ⟨(some 46), none, .op (.fad 9 (.t 45))⟩,  ⟨(some 47), none, .op (.load none (.t 46))⟩,  ⟨(some 48), none, .op (.mv (.t 3))⟩,  ⟨(some 49), none, .op (.bin .none .sub (.t 48) (.v (.int .i64 1)))⟩,  ⟨(some 50), none, .op (.mv (.t 0))⟩,  ⟨(some 51), none, .op (.nchk (.t 50))⟩,  ⟨(some 52), none, .op (.fad 9 (.t 51))⟩,  ⟨(some 53), none, .op (.load none (.t 52))⟩,  ⟨(some 54), none, .op (.mv (.t 3))⟩,  ⟨(some 55), none, .op (.iad none (some 2) (.t 53) (.t 54))⟩,  ⟨(some 56), none, .op (.load (some 2) (.t 55))⟩,  ⟨(some 57), none, .op (.iad none (some 2) (.t 47) (.t 49))⟩,  ⟨none, none, .op (.store 2 (.t 57) (.t 56))⟩] []
def c0Q : FC := .reg [⟨(some 58), none, .op (.mv (.t 0))⟩,  ⟨(some 59), none, .op (.mv (.t 0))⟩,  ⟨(some 60), none, .op (.nchk (.t 59))⟩,  ⟨(some 61), none, .op (.fad 9 (.t 60))⟩,  ⟨(some 62), none, .op (.load none (.t 61))⟩,  ⟨(some 63), none, .op (.mv (.t 3))⟩,  ⟨(some 64), none, .op (.slc (some 2) (.t 62) none (some (.t 63)) none)⟩,  ⟨(some 65), none, .op (.nchk (.t 58))⟩,  ⟨(some 66), none, .op (.fad 9 (.t 65))⟩,  ⟨none, none, .op (.store 1 (.t 66) (.t 64))⟩] []
def b4G : FC := .reg [⟨(some 67), none, .op (.mv (.t 3))⟩,  ⟨(some 68), none, .op (.bin .none .sub (.t 67) (.v (.int .i64 1)))⟩,  ⟨(some 3), none, .op (.mv (.t 68))⟩] []
def b4H : FC := .seq c0Q b4G
def b4I : FC := .seq c0P b4H
def b4J : FC := .cond (.t 43) b4I FC.skip
def b4K : FC := .seq c0O b4J
def b4L : FC := .reg [⟨(some 69), none, .op (.mv (.t 0))⟩,  ⟨(some 70), none, .op (.nchk (.t 69))⟩,  ⟨(some 71), none, .op (.fad 8 (.t 70))⟩,  ⟨(some 72), none, .op (.load none (.t 71))⟩,  ⟨(some 73), none, .op (.len .sl (.t 72))⟩,  ⟨(some 74), none, .op (.bin .none .eql (.t 73) (.v (.int .i64 0)))⟩] []
def b4M : FC := .reg [⟨(some 75), none, .op (.mv (.t 0))⟩,  ⟨(some 76), none, .op (.mv (.t 0))⟩,  ⟨(some 77), none, .op (.nchk (.t 76))⟩,  ⟨(some 78), none, .op (.fad 9 (.t 77))⟩,  ⟨(some 79), none, .op (.load none (.t 78))⟩,  ⟨(some 80), none, .op (.mv (.t 3))⟩,  ⟨(some 81), none, .op (.iad none (some 2) (.t 79) (.t 80))⟩,  ⟨(some 82), none, .op (.fad 0 (.t 81))⟩,  ⟨(some 83), none, .op (.load none (.t 82))⟩,  ⟨(some 84), none, .op (.build [(.int .i64 0), (.int .u64 0)] [(0, 1, (.v (.int .i64 2))), (1, 1, (.t 83))])⟩,  ⟨(some 85), none, .op (.nchk (.t 75))⟩,  ⟨(some 86), none, .op (.fad 2 (.t 85))⟩,  ⟨none, none, .op (.store 2 (.t 86) (.t 84))⟩] []
def b4N : FC := .seq b4M FC.ret
def b4O : FC := .cond (.t 74) b4N FC.skip
def b4P : FC := .seq b4L b4O
def b4Q : FC := .seq b4K b4P
def b4R : FC := .seq c0N b4Q
def b4S : FC := .seq c0M b4R
def b4T : FC := .seq c0L b4S
def b4U : FC := .block 1 b4T
def b4V : FC := .seq c0K b4U
def b4W : FC := .loop b4V
def b4X : FC := .block 0 b4W
def c4v : FC := b4X
theorem c4w : Fn3 Try.prog 138 87 [] c4v := ⟨_, _, Try.func138, rfl, rfl, rfl, by kernel_rfl⟩

def c0R : FC := .reg [⟨(some 4), none, .op (.mv (.t 0))⟩,  ⟨(some 5), none, .op (.mv (.t 0))⟩,  ⟨(some 6), none, .op (.nchk (.t 5))⟩,  ⟨(some 7), none, .op (.fad 9 (.t 6))⟩,  ⟨(some 8), none, .op (.load none (.t 7))⟩,  ⟨(some 9), none, .op (.mv (.t 1))⟩,  ⟨(some 10), none, .op (.build [(.int .u64 0), (.bool false)] [(0, 1, (.t 9))])⟩,  ⟨(some 11), none, .op (.bsl (some 2) [(.int .u64 0), (.bool false)] 1 [(0, 2, (.t 10))])⟩,  ⟨(some 12), none, .op (.app (some 2) 16 (.t 8) (.t 11))⟩,  ⟨(some 13), none, .op (.nchk (.t 4))⟩,  ⟨(some 14), none, .op (.fad 9 (.t 13))⟩,  ⟨none, none, .op (.store 1 (.t 14) (.t 12))⟩] []
def c0S : FC := .reg [⟨(some 15), none, .op (.mv (.t 0))⟩,  ⟨(some 16), none, .op (.mv (.t 0))⟩,  ⟨(some 17), none, .op (.nchk (.t 16))⟩,  ⟨(some 18), none, .op (.fad 7 (.t 17))⟩,  ⟨(some 19), none, .op (.load none (.t 18))⟩,  ⟨(some 20), none, .op (.mv (.t 0))⟩,  ⟨(some 21), none, .op (.nchk (.t 20))⟩,  ⟨(some 22), none, .op (.fad 9 (.t 21))⟩,  ⟨(some 23), none, .op (.load none (.t 22))⟩,  ⟨(some 24), none, .op (.len .sl (.t 23))⟩,  ⟨(some 25), none, .op (.mn true (.t 19) (.t 24))⟩,  ⟨(some 26), none, .op (.nchk (.t 15))⟩,  ⟨(some 27), none, .op (.fad 7 (.t 26))⟩,  ⟨none, none, .op (.store 1 (.t 27) (.t 25))⟩] []
def c0T : FC := .reg [⟨(some 28), none, .op (.mv (.t 0))⟩,  ⟨(some 29), none, .call 138 [(.t 28)]⟩] []
def c0U : FC := .seq c0S c0T
def c0V : FC := .seq c0R c0U
def c4x : FC := c0V
theorem c4y : Fn3 Try.prog 150 30 [] c4x := ⟨_, _, Try.func150, rfl, rfl, rfl, by kernel_rfl⟩

def b8d (w : Int) (ps : List n9) : Option (List n9) := if w = 2 then (match ps with | a :: _ :: l => some (a :: l) | _ => none) else some ps
theorem a6F {w : Int} {ps q : List n9} (h : b8d w ps = some q) : (w = 2 ∧ ∃ a b l, ps = a :: b :: l ∧ q = a :: l) ∨ (w ≠ 2 ∧ q = ps) := by
 unfold b8d at h
 split at h
 ·rename_i hw
  split at h
  ·cases h; exact .inl ⟨hw, _, _, _, rfl, rfl⟩
  ·cases h
 ·rename_i hw
  cases h; exact .inr ⟨hw, rfl⟩
def c6H : List n9 → Option Int
 | a :: _ => some a.v
 | [] => none
def p9 (p : Program) : List ARow → List n9 → Option (Option Int × List ARow × List n9)
 | [], _ => none
 | z :: r, ps => match z.df with
   | x :: df => (a0R p x.f x.args (r.length + 2)).bind fun f => some (none, ⟨f, 2, [], 0⟩ :: { z with df := df } :: r, ps)
   | [] => (b8d z.why ps).bind fun ps' => match r with
     | [] => (c6H ps').map fun v => (some v, [], ps')
     | y :: t => p9 p (y :: t) ps'
theorem a7p {p : Program} {z : ARow} {r : List ARow} {ps : List n9} {x} (hz : z.df = []) (h : p9 p (z :: r) ps = some x) : ∃ q, b8d z.why ps = some q ∧ (r = [] → ∃ v, c6H q = some v ∧ x = (some v, [], q)) ∧ (r ≠ [] → p9 p r q = some x) := by
 unfold p9 at h
 rw [hz] at h
 obtain ⟨q, h1, h2⟩ := Option.bind_eq_some_iff.1 h
 refine ⟨q, h1, fun e => ?_, fun e => ?_⟩
 ·subst e
  obtain ⟨v, h3, h4⟩ := Option.map_eq_some_iff.1 h2
  exact ⟨v, h3, h4.symm⟩
 ·cases r with
  | nil => exact absurd rfl e
  | cons y t => exact h2
theorem a6G {p : Program} {z : ARow} {r : List ARow} {ps : List n9} {x y df} (hz : z.df = y :: df) (h : p9 p (z :: r) ps = some x) : ∃ f, a0R p y.f y.args (r.length + 2) = some f ∧ x = (none, ⟨f, 2, [], 0⟩ :: { z with df := df } :: r, ps) := by
 unfold p9 at h
 rw [hz] at h
 obtain ⟨f, h1, h2⟩ := Option.bind_eq_some_iff.1 h
 cases h2
 exact ⟨f, h1, rfl⟩
abbrev a0D (rows : List Row) : List AV := (rows.map (fun z => AV.ptr z.s 0 0)).reverse
structure UO where
 m : Nat
 ro : Nat
 rv : Nat
 po : Nat
 pv : Nat
def uL (p : Program) (o : UO) (a0 a4 a6 a7 : AV) (ek ev dep live : Int) (rows : List Row) (ps : List n9) (rj pj : List AV) : List It :=
 (o.m, 0, [a0, mkA p, .int .i64 ek, .int .u64 ev, a4, .int .i64 dep, a6, a7, .ref o.ro o.rv 0 rows.length none, .ref o.po o.pv 0 ps.length (some 2), .int .i64 live]) :: (o.ro, o.rv, a0D rows ++ rj) :: (o.po, o.pv, flat n9.av ps.reverse ++ pj) :: rows.flatMap (a0a p)
theorem r5 {z : Row} {r : List Row} {rj : List AV} : a0D (z :: r) ++ rj = a0D r ++ (.ptr z.s 0 0 :: rj) := by simp [a0D]
theorem c7n {k : IntKind} {a b : Int} (h : a = b) : a5P none (.int k a) (.int k b) := h ▸ .refl _
theorem a3M {p : Program} {k : Int} {ag : List Int} {n : Nat} {f : SFr} (hl : ∀ g ∈ p.Funcs, g.Locals.length < 1000000000) (h : a0R p k ag n = some f) : f.f.Locals.length < 1000000000 := by
 unfold a0R at h
 obtain ⟨g, h1, h2⟩ := Option.bind_eq_some_iff.1 h
 split at h2
 ·cases h2; exact hl g (List.mem_of_getElem? (g6 h1).2.2)
 ·cases h2
theorem a8n {m r q : It} {A B C X R : List It} : List.Perm ((([m, r] ++ B) ++ A) ++ (q :: (C ++ X ++ R))) (m :: r :: q :: (A ++ (B ++ (C ++ (X ++ R))))) := by
 simp only [List.cons_append, List.nil_append, List.append_assoc]
 refine List.Perm.cons _ (List.Perm.cons _ ?_)
 have h1 : List.Perm (B ++ (A ++ (q :: (C ++ (X ++ R))))) (q :: (B ++ (A ++ (C ++ (X ++ R))))) := by
  simpa only [List.append_assoc] using (List.perm_middle : List.Perm ((B ++ A) ++ (q :: (C ++ (X ++ R)))) (q :: ((B ++ A) ++ (C ++ (X ++ R)))))
 refine h1.trans (List.Perm.cons _ ?_)
 rw [← List.append_assoc, ← List.append_assoc A]
 exact List.Perm.append_right _ List.perm_append_comm
theorem b0E {m r s d q x l t : It} {X : List It} : List.Sublist (m :: r :: q :: X) (m :: r :: s :: d :: q :: x :: l :: t :: X) :=
 .cons_cons _ (.cons_cons _ (.cons _ (.cons _ (.cons_cons _ (.cons _ (.cons _ (.cons _ (.refl _))))))))
section
variable {a0 a4 a6 a7 : AV} {o : UO} {p : Program} {ek ev dep live : Int}
theorem a5f {rows : List Row} {ps ps' : List n9} {rj pj : List AV} {en : Option Int} {A' : List ARow} (hv : p9 p (a0p rows) ps = some (en, A', ps')) (hn : rows.length < 10000000) (hp : ps.length < 10000000)
  (hl : ∀ g ∈ p.Funcs, g.Locals.length < 1000000000) (hd : 0 ≤ dep ∧ dep < 1000000000) (hlv : ∀ z ∈ rows, (z.df.length : Int) ≤ live) (hlv2 : live < 100000000) :
  Tri Try.prog 138 [.ptr o.m 0 0] (uL p o a0 a4 a6 a7 ek ev dep live rows ps rj pj)
   (fun _ L' => ∃ rv rows' rj' pj', a0p rows' = A' ∧ L' = uL p { o with rv := rv } a0 a4 a6 a7 (if en.isSome then 2 else ek) (en.getD ev) (if en.isSome then dep else max dep (A'.length : Int)) (if en.isSome then live else live - 1) rows' ps' rj' pj') := by
 refine j9 mixed c4w zS [] (fun R S hS => ?_)
 refine g8 (a5I (σ := List Row × List n9 × List AV × List AV) (fun _ => [(0, .ptr o.m 0 0)]) (fun q => uL p o a0 a4 a6 a7 ek ev dep live q.1 q.2.1 q.2.2.1 q.2.2.2 ++ R)
  (fun q => p9 p (a0p q.1) q.2.1 = some (en, A', ps') ∧ q.1.length < 10000000 ∧ q.2.1.length < 10000000 ∧ ∀ z ∈ q.1, (z.df.length : Int) ≤ live) (fun q => q.1.length) (rows, ps, rj, pj) hS ⟨hv, hn, hp, hlv⟩
  (a1m ⟨.refl _, trivial⟩) (fun q S hI hS => ?_))
 obtain ⟨rows1, ps1, rj1, pj1⟩ := q
 obtain ⟨i1, i2, i3, i4⟩ := hI
 dsimp only at i1 i2 i3 i4 hS
 cases rows1 with
 | nil => cases i1
 | cons z r =>
 have hS0 : Sep S ((o.m, 0, [a0, mkA p, .int .i64 ek, .int .u64 ev, a4, .int .i64 dep, a6, a7, .ref o.ro o.rv 0 (r.length + 1) none, .ref o.po o.pv 0 ps1.length (some 2), .int .i64 live]) :: (o.ro, o.rv, a0D (z :: r) ++ rj1) :: (o.po, o.pv, flat n9.av ps1.reverse ++ pj1) ::
  (z.s, 0, [.iface 128 (.ptr z.q.x 0 0), .int .i64 z.why, .ref z.d z.dv 0 z.df.length (some 2), .int .u64 z.ret]) :: (z.d, z.dv, flat a0J.av z.df.reverse ++ z.dj) :: (frL p z.fr z.q ++ r.flatMap (a0a p) ++ R)) := by
  simpa [uL, a0a, slL, List.append_assoc] using hS
 rw [r5] at hS0
 refine aU ?_
 cases hz : z.df with
 | nil =>
   refine a0d (a6D (m := o.m) (ro := o.ro) (rv := o.rv) (n := r.length) (p := p) (rc := a0D r) (rj := rj1) (dep := dep) (w := 2) (z := z) hz (by simp at i2; omega) zS) hS0 rfl
    (Spl.cons Pk.here (Spl.cons Pk.here (Spl.cons (Pk.there Pk.here) (Spl.cons (Pk.there Pk.here) Spl.nil)))) (fun r0 S L' hL hS => ?_)
   obtain ⟨rfl, rfl⟩ := hL
   refine aU ?_
   refine d9 (t := true) rfl (fun _ => ?_) (fun h => by cases h)
   refine aU ?_
   refine g8 ?_
   refine aU ?_
   refine f5 hS rfl (.head _) (v := .ref o.ro o.rv 0 (r.length + 1) none) rfl ?_
   refine aU ?_
   refine f5 hS rfl (.head _) (v := .ref o.ro o.rv 0 (r.length + 1) none) rfl ?_
   refine aU ?_
   have hr1 : r.length < 10000000 := by simp at i2; omega
   refine u6 rfl rfl r.length (a0S zO) zO ?_
   refine f5 hS rfl (.tail _ (.head _)) (v := .ptr z.s 0 0) (a3z rfl zS) ?_
   refine aU ?_
   refine f5 hS rfl (.head _) (v := .ref o.ro o.rv 0 (r.length + 1) none) rfl ?_
   refine aU ?_
   refine f5 hS rfl (.head _) (v := .ref o.ro o.rv 0 (r.length + 1) none) rfl ?_
   refine aU ?_
   refine a2F (a := 0) (b := r.length) rfl rfl (by show hiN (r.length + 1) (some (.int .i64 (IntKind.i64.wrap (((r.length + 1 : Nat) : Int) - 1)))) = _; rw [a0S zO, z0 zO]; simp) ⟨by omega, by omega, .inl rfl⟩ ?_
   refine aU ?_
   refine E_stS hS rfl (xv := .ref o.ro o.rv 0 r.length none) (by show AV.ref o.ro o.rv (0 + 0 * c9 none) (r.length - 0) none = _; simp) Rp.here rfl rfl (by first | exact Nat.le_of_ble_eq_true rfl | (simp; omega) | omega) (fun S hS => ?_)
   refine aU ?_
   refine f5 hS rfl (.head _) (v := .ref o.po o.pv 0 ps1.length (some 2)) rfl ?_
   refine aU ?_
   refine f5 hS rfl (.tail _ (.tail _ (.head _))) (v := .int .i64 z.why) rfl ?_
   refine aU ?_
   obtain ⟨ps2, h2, h3, h4⟩ := a7p (z := z.toARow) (r := a0p r) hz i1
   refine a7n (σ := List AV) (fun _ => [(0, .ptr o.m 0 0), (3, .int .i64 (IntKind.i64.wrap ((ps2.length : Int) - 1)))])
    (fun pj2 => (o.m, 0, [a0, mkA p, .int .i64 ek, .int .u64 ev, a4, .int .i64 dep, a6, a7, .ref o.ro o.rv 0 r.length none, .ref o.po o.pv 0 ps2.length (some 2), .int .i64 live]) :: (o.ro, o.rv, a0D r ++ (.ptr z.s 0 0 :: rj1)) :: (o.po, o.pv, flat n9.av ps2.reverse ++ pj2) :: (r.flatMap (a0a p) ++ R))
    (fun _ => ps2.length ≤ ps1.length) ?_ (fun pj2 S hI hS => ?_)
   ·refine d9 (t := z.why == 2) rfl (fun hw => ?_) (fun hw => ?_)
    ·have hw' : z.why = 2 := by simpa using hw
     obtain ⟨_, a, b, l, rfl, rfl⟩ : z.why = 2 ∧ ∃ a b l, ps1 = a :: b :: l ∧ ps2 = a :: l := (a6F h2).resolve_right (fun h => h.1 hw')
     simp only [List.length_cons] at i3
     have hxa : (a :: b :: l).reverse[l.length + 1]? = some a := by simp [List.getElem?_append]
     have hxb : (a :: b :: l).reverse[l.length]? = some b := by simp [List.getElem?_append]
     have hw1 : IntKind.i64.wrap (((l.length + 1 + 1 : Nat) : Int) - 1) = ((l.length + 1 : Nat) : Int) := a0S zO
     refine aU ?_
     refine f5 hS rfl (.head _) (v := .ref o.po o.pv 0 (l.length + 2) (some 2)) rfl ?_
     refine aU ?_
     refine f5 hS rfl (.head _) (v := .ref o.po o.pv 0 (l.length + 2) (some 2)) rfl ?_
     refine aU ?_
     refine u6 rfl rfl (l.length + 1) hw1 zO ?_
     refine a7m hS n9.enc rfl (.tail _ (.tail _ (.tail _ (.tail _ (.head _))))) (n := l.length + 1) (fo := 0) (y := a) zS hxa (v := a.av) rfl ?_
     refine u6 rfl rfl l.length (by show IntKind.i64.wrap (IntKind.i64.wrap (((l.length + 1 + 1 : Nat) : Int) - 1) - 1) = _; rw [hw1]; exact a0S zO) zO ?_
     refine b8N (y' := a) hS n9.enc rfl (xv := a.av) rfl (n := l.length) (fo := 0) (y := b) zS hxb (Rp.there (Rp.there (Rp.there (Rp.there Rp.here)))) rfl rfl (by simp [c9]) rfl (fun S hS => ?_)
     refine aU ?_
     refine f5 hS rfl (.head _) (v := .ref o.po o.pv 0 (l.length + 2) (some 2)) rfl ?_
     refine aU ?_
     refine a2F (a := 0) (b := l.length + 1) rfl rfl (by show hiN (l.length + 2) (some (.int .i64 (IntKind.i64.wrap (((l.length + 1 + 1 : Nat) : Int) - 1)))) = _; rw [hw1, z0 zO]; simp) ⟨by omega, by omega, .inl rfl⟩ ?_
     refine aU ?_
     refine E_stS hS rfl (xv := .ref o.po o.pv 0 (l.length + 1) (some 2)) (by show AV.ref o.po o.pv (0 + 0 * c9 (some 2)) (l.length + 1 - 0) (some 2) = _; simp) Rp.here rfl rfl (by first | exact Nat.le_of_ble_eq_true rfl | (simp; omega) | omega) (fun S hS => ?_)
     refine aU ?_
     have e3 : IntKind.i64.wrap (IntKind.i64.wrap (((l.length + 1 + 1 : Nat) : Int) - 1) - 1) = IntKind.i64.wrap (((a :: l).length : Int) - 1) := by rw [hw1]; rfl
     refine z5 ⟨a.cells ++ pj1, by simp, ?_, a1m ⟨.refl _, c7n e3, trivial⟩⟩
     have e4 : flat n9.av ((a :: b :: l).reverse.set l.length a) ++ pj1 = flat n9.av (a :: l).reverse ++ (a.cells ++ pj1) := by
      have : (a :: b :: l).reverse.set l.length a = (a :: l).reverse ++ [a] := by simp [List.set_append]
      rw [this, m6, List.append_assoc]; rfl
     have hS4 : Ab.Sep S ((o.m, 0, [a0, mkA p, .int .i64 ek, .int .u64 ev, a4, .int .i64 dep, a6, a7, .ref o.ro o.rv 0 r.length none, .ref o.po o.pv 0 (a :: l).length (some 2), .int .i64 live]) :: (o.ro, o.rv, a0D r ++ (.ptr z.s 0 0 :: rj1)) :: _ :: _ :: (o.po, o.pv, flat n9.av ((a :: b :: l).reverse.set l.length a) ++ pj1) :: _ :: _ :: _ :: (r.flatMap (a0a p) ++ R)) := hS
     rw [e4] at hS4
     exact hS4.sub b0E
    ·have hw' : ¬ z.why = 2 := by simpa using hw
     obtain ⟨_, rfl⟩ := (a6F h2).resolve_left (fun h => hw' h.1)
     refine aU ?_
     refine z5 ⟨pj1, Nat.le_refl _, ?_, a1m ⟨.refl _, .refl _, trivial⟩⟩
     have hS4 : Ab.Sep S ((o.m, 0, [a0, mkA p, .int .i64 ek, .int .u64 ev, a4, .int .i64 dep, a6, a7, .ref o.ro o.rv 0 r.length none, .ref o.po o.pv 0 ps2.length (some 2), .int .i64 live]) :: (o.ro, o.rv, a0D r ++ (.ptr z.s 0 0 :: rj1)) :: _ :: _ :: (o.po, o.pv, flat n9.av ps2.reverse ++ pj1) :: _ :: _ :: _ :: (r.flatMap (a0a p) ++ R)) := hS
     exact hS4.sub b0E
   ·refine aU ?_
    refine f5 hS rfl (.head _) (v := .ref o.ro o.rv 0 r.length none) rfl ?_
    refine aU ?_
    refine d9 (t := ((r.length : Int) == 0)) rfl (fun hr => ?_) (fun hr => ?_)
    ·have hr0 : r = [] := by
      have : (r.length : Int) = 0 := by simpa using hr
      exact List.length_eq_zero_iff.1 zO
     subst hr0
     obtain ⟨v, h5, h6⟩ := h3 rfl
     obtain ⟨a, l, rfl⟩ : ∃ a l, ps2 = a :: l := by
      cases ps2 with
      | nil => cases h5
      | cons a l => exact ⟨a, l, rfl⟩
     cases h5
     cases h6
     have hla : (a :: l).reverse[l.length]? = some a := by simp
     simp only [List.length_cons] at hI
     refine aU ?_
     refine f5 hS rfl (.head _) (v := .ref o.po o.pv 0 (l.length + 1) (some 2)) rfl ?_
     refine aU ?_
     refine u6 rfl rfl l.length (by show IntKind.i64.wrap (((l.length + 1 : Nat) : Int) - 1) = _; exact a0S zO) zO ?_
     refine aU ?_
     refine a7m hS n9.enc rfl (.tail _ (.tail _ (.head _))) (n := l.length) (fo := 0) (y := a) zS hla (v := .int .u64 a.v) rfl ?_
     refine aU ?_
     refine E_stS hS rfl (xv := .agg [.int .i64 2, .int .u64 a.v]) rfl Rp.here rfl rfl (by first | exact Nat.le_of_ble_eq_true rfl | (simp; omega) | omega) (fun S hS => ?_)
     refine aU ?_
     refine f9 ?_
     (repeat (first | refine i9 ?_ | refine j2 ?_ | refine j3 rfl ?_ | refine d7 ?_ | refine f7 ?_ | refine i7 ?_))
     exact ⟨trivial, _, rfl, _, ⟨o.rv, [], _, pj2, rfl, rfl⟩, hS⟩
    ·have hr0 : r ≠ [] := fun e => by subst e; cases hr
     refine aU ?_
     (repeat (first | refine i9 ?_ | refine j2 ?_ | refine j3 rfl ?_ | refine d7 ?_ | refine f7 ?_ | refine i7 ?_))
     have hr1 : a0p r ≠ [] := fun e => hr0 (List.map_eq_nil_iff.1 e)
     exact z5 ⟨(r, ps2, .ptr z.s 0 0 :: rj1, pj2), ⟨h4 hr1, by simp at i2; show r.length < 10000000; omega, by show ps2.length < 10000000; omega, fun y hy => i4 y (.tail _ hy)⟩, by show r.length < (z :: r).length; simp, hS, a1m ⟨.refl _, trivial⟩⟩
 | cons x df =>
   obtain ⟨f, h1, h2⟩ := a6G (z := z.toARow) (r := a0p r) hz i1
   simp only [a0p, List.length_map] at h1
   cases h2
   have hr1 : r.length < 10000000 := by simp at i2; omega
   have hlz := i4 z (.head _)
   rw [hz, List.length_cons] at hlz
   refine a0d (a6E (m := o.m) (ro := o.ro) (rv := o.rv) (n := r.length) (p := p) (rc := a0D r) (rj := rj1) (dep := dep) (w := 2) (z := z) (live := live) hz h1 hr1 (a3M hl h1) zS hd zO zO) hS0 rfl
    (Spl.cons Pk.here (Spl.cons Pk.here (Spl.cons (Pk.there Pk.here) (Spl.cons (Pk.there Pk.here) Spl.nil)))) (fun r0 S L' hL hS => ?_)
   obtain ⟨rfl, s, d, q, rfl⟩ := hL
   refine aU ?_
   refine d9 (t := false) rfl (fun h => by cases h) (fun _ => ?_)
   refine a4U ?_
   (repeat (first | refine i9 ?_ | refine j2 ?_ | refine j3 rfl ?_ | refine d7 ?_ | refine f7 ?_ | refine i7 ?_))
   refine ⟨trivial, _, rfl, _, ⟨o.rv + 1, ⟨⟨f, 2, [], 0⟩, s, d, 0, [], q⟩ :: { z with df := df, dj := x.cells ++ z.dj } :: r, [], pj1, rfl, rfl⟩, ?_⟩
   have e1 : max dep ((r.length : Int) + 2) = max dep (((⟨f, 2, [], 0⟩ :: { z.toARow with df := df } :: a0p r : List ARow).length : Nat) : Int) := by simp [a0p]; omega
   rw [e1] at hS
   have e2 : a0D r ++ [AV.ptr z.s 0 0, .ptr s 0 0] = a0D (⟨⟨f, 2, [], 0⟩, s, d, 0, [], q⟩ :: { z with df := df, dj := x.cells ++ z.dj } :: r) ++ [] := by simp [a0D]
   rw [e2] at hS
   have hS5 := hS.perm (a8n (A := a0a p ⟨⟨f, 2, [], 0⟩, s, d, 0, [], q⟩) (B := slL { z with df := df, dj := x.cells ++ z.dj }) (C := frL p z.fr z.q) (X := r.flatMap (a0a p)) (R := R) : List.Perm ((([_, _] ++ _) ++ _) ++ (_ :: (_ ++ _ ++ R))) _)
   simpa [uL, a0a, List.append_assoc] using hS5
theorem a4p {v pmx : Int} {rows : List Row} {ps ps' : List n9} {rj pj : List AV} {en : Option Int} {A' : List ARow} (hv : p9 p (a0p rows) (⟨v, false⟩ :: ps) = some (en, A', ps')) (hn : rows.length < 10000000) (hp : ps.length < 9999999)
  (hl : ∀ g ∈ p.Funcs, g.Locals.length < 1000000000) (hd : 0 ≤ dep ∧ dep < 1000000000) (hlv : ∀ z ∈ rows, (z.df.length : Int) ≤ live) (hlv2 : live < 100000000) :
  Tri Try.prog 150 [.ptr o.m 0 0, .int .u64 v] (uL p o a0 a4 a6 (.int .i64 pmx) ek ev dep live rows ps rj pj)
   (fun _ L' => ∃ rv rows' rj' pj', a0p rows' = A' ∧ L' = uL p { o with rv := rv, pv := o.pv + 1 } a0 a4 a6 (.int .i64 (max pmx ((ps.length : Int) + 1))) (if en.isSome then 2 else ek) (en.getD ev) (if en.isSome then dep else max dep (A'.length : Int)) (if en.isSome then live else live - 1) rows' ps' rj' pj') := by
 refine j9 mixed c4y zS [] (fun R S hS => ?_)
 refine aU ?_
 refine f5 hS rfl (.head _) (v := .ref o.po o.pv 0 ps.length (some 2)) rfl ?_
 refine aU ?_
 refine a6z (o := o.po) (ver := o.pv) (f := n9.av) (l := ps.reverse) (m := [(⟨v, false⟩ : n9)]) (j := pj) hS n9.enc (by show AV.ref o.po o.pv 0 ps.length _ = _; rw [List.length_reverse]) (u9 (f := n9.av) (esh := some 2) [(⟨v, false⟩ : n9)]) (Rp.there (Rp.there Rp.here)) ⟨by simp; omega, by simp; omega⟩ (fun S hS => ?_)
 refine aU ?_
 refine E_stS hS rfl (xv := .ref o.po (o.pv + 1) 0 (ps.length + 1) (some 2)) (by show AV.ref o.po (o.pv + 1) 0 (ps.reverse ++ [(⟨v, false⟩ : n9)]).length _ = _; simp) Rp.here rfl rfl (by first | exact Nat.le_of_ble_eq_true rfl | (simp; omega) | omega) (fun S hS => ?_)
 refine aU ?_
 refine f5 hS rfl (.head _) (v := .int .i64 pmx) rfl ?_
 refine aU ?_
 refine f5 hS rfl (.head _) (v := .ref o.po (o.pv + 1) 0 (ps.length + 1) (some 2)) rfl ?_
 refine aU ?_
 refine E_stS hS rfl (xv := .int .i64 (max pmx ((ps.length : Int) + 1))) (by show AV.int .i64 (if true = true then if ((ps.length + 1 : Nat) : Int) > pmx then ((ps.length + 1 : Nat) : Int) else pmx else _) = _; rw [if_pos rfl, c0H]; rfl) Rp.here rfl rfl (by first | exact Nat.le_of_ble_eq_true rfl | (simp; omega) | omega) (fun S hS => ?_)
 refine aU ?_
 have e1 : flat n9.av (ps.reverse ++ [(⟨v, false⟩ : n9)]) = flat n9.av ((⟨v, false⟩ : n9) :: ps).reverse ++ [] := by rw [List.reverse_cons, List.append_nil]
 rw [e1] at hS
 have hS2 : Ab.Sep S (uL p { o with pv := o.pv + 1 } a0 a4 a6 (.int .i64 (max pmx ((ps.length : Int) + 1))) ek ev dep live rows ((⟨v, false⟩ : n9) :: ps) rj [] ++ R) := hS
 refine a0d (a5f (o := { o with pv := o.pv + 1 }) hv hn zE hl hd hlv hlv2) hS2 rfl (.refl _) (fun r S L' hL hS => ?_)
 refine aU ?_
 (repeat (first | refine i9 ?_ | refine j2 ?_ | refine j3 rfl ?_ | refine d7 ?_ | refine f7 ?_ | refine i7 ?_))
 obtain ⟨rv, rows', rj', pj', h1, rfl⟩ := hL
 exact ⟨trivial, _, rfl, _, ⟨rv, rows', rj', pj', h1, rfl⟩, hS⟩
end
end Go.Proofs.Ytnpemocpfdgaoaa

