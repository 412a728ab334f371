/- build: a node, plainly. -/
import Derived.Test.YtnpemocpfdgaoaaBdW5
set_option linter.unusedVariables false
set_option linter.unusedSimpArgs false
namespace Go.Proofs.Ytnpemocpfdgaoaa
open Go Go.Ab
def ndI (p : Program) (f : Func) (cell s : List Int) (i : Instr) : Option g6 :=
 if i.Op = 1 then some ⟨1, 0, m6 f s.length 0, 0, 0, 0, 0, 0, i.Imm, [], 0, 0⟩
 else if i.Op = 2 then (j9 cell i.Arg).bind fun c => (j9 f.Locals i.Arg).map fun k => y3 c i.Arg (m6 f s.length k) false
 else if i.Op = 3 then (j9 cell i.Arg).bind fun c => (a3M f s 1).map fun t => y3 c i.Arg t true
 else if i.Op = 4 then (j9 cell i.Arg).map fun c => ⟨6, 0, m6 f s.length 1, 0, 0, 0, 0, c, 0, [], 0, 0⟩
 else if i.Op = 5 then (a3M f s 1).map fun t => ⟨7, 0, m6 f ((s.length : Int) - 1) 0, 0, t, 0, 0, 0, 0, [], 0, 0⟩
 else if i.Op = 6 then (a3M f s 1).bind fun t1 => (a3M f s 2).map fun t2 => ⟨8, 0, 0, 0, t2, t1, 0, 0, 0, [], 0, 0⟩
 else if i.Op = 21 \/ i.Op = 31 then some ⟨10, 0, 0, 0, 0, 0, 0, 0, 0, [], 0, 0⟩
 else if i.Op = 22 then (a3M f s 1).map fun t => ⟨9, 0, 0, 0, t, 0, 0, 0, 0, [], 0, i.Arg⟩
 else if i.Op = 23 then (j9 p.Funcs i.Arg).bind fun g => if 0 <= g.Params /\ g.Params <= s.length then
  some ⟨11, 0, if g.Result = true then m6 f ((s.length : Int) - g.Params) 0 else -1, 0, 0, 0, i.Arg, 0, 0, x3 f s ((s.length : Int) - g.Params).toNat (s.length - ((s.length : Int) - g.Params).toNat), 0, 0⟩ else none
 else if i.Op = 25 then (j9 p.Funcs i.Arg).bind fun g => if 0 <= g.Params /\ g.Params <= s.length then
  some ⟨13, 0, 0, 0, 0, 0, i.Arg, 0, 0, x3 f s ((s.length : Int) - g.Params).toNat (s.length - ((s.length : Int) - g.Params).toNat), 0, 0⟩ else none
 else if i.Op = 24 then (if f.Result = true then (a3M f s 1).map fun t => ⟨12, 0, 0, 0, t, 0, 0, 0, 0, [], 0, 0⟩ else some ⟨12, 0, 0, 0, -1, 0, 0, 0, 0, [], 0, 0⟩)
 else if i.Op = 26 then (a3M f s 1).map fun t => ⟨14, 0, 0, 0, t, 0, 0, 0, 0, [], 0, 0⟩
 else if i.Op = 27 then some ⟨15, 0, m6 f s.length 0, m6 f ((s.length : Int) + 1) 0, 0, 0, 0, 0, 0, [], 0, 0⟩
 else if i.Op = 28 then some ⟨16, 0, m6 f s.length 0, 0, 0, 0, 0, 0, 0, [], 0, 0⟩
 else if i.Op = 29 then (a3M f s 1).map fun t => ⟨17, 0, 0, 0, t, 0, 0, 0, 0, [], 0, 0⟩
 else if i.Op = 30 then (a3M f s 1).map fun t => ⟨18, 0, 0, 0, t, 0, 0, 0, 0, [], 0, 0⟩
 else if i.Op = 32 then (j9 s ((s.length : Int) - 1)).bind fun k => (a3M f s 1).map fun t => ⟨2, 0, m6 f s.length k, 0, t, 0, 0, 0, 0, [], 0, 0⟩
 else (a3M f s 1).bind fun t1 => (a3M f s 2).map fun t2 => ⟨3, i.Op, t2, 0, t2, t1, 0, 0, 0, [], 0, 0⟩
section
variable {p : Program} {f : Func} {b cl : Nat} {cs : List AV} {cell s : List Int} {at_ : Int} {i : Instr}
theorem b3f {n : g6} (B : NB p f cl cs cell s at_) (hlk : ∀ k ∈ f.Locals, 0 <= k /\ k < 256) (hi : j9 f.Code at_ = some i) (hv : ndI p f cell s i = some n) :
  Tri Try.prog 54 [.ptr b 0 0, .int .i64 at_, .sl false 1 (s.map (avI .u8))] [(b, 0, cs), (cl, 0, flat (avI .i64) cell)] (fun x L' => x = g6.av { n with Next := t6 f at_ i } /\ L' = [(b, 0, cs), (cl, 0, flat (avI .i64) cell)]) := by
 unfold ndI at hv
 by_cases h : i.Op = 1
 ·rw [if_pos h] at hv; cases hv; exact nd1 B hi h
 rw [if_neg h] at hv; have n1 := h; clear h
 by_cases h : i.Op = 2
 ·rw [if_pos h] at hv
  obtain ⟨c, q1, hv⟩ := Option.bind_eq_some_iff.1 hv
  obtain ⟨k, q2, rfl⟩ := Option.map_eq_some_iff.1 hv
  exact nd2 B hi h q1 q2 (hlk k (a8A q2))
 rw [if_neg h] at hv; have n2 := h; clear h
 by_cases h : i.Op = 3
 ·rw [if_pos h] at hv
  obtain ⟨c, q1, hv⟩ := Option.bind_eq_some_iff.1 hv
  obtain ⟨t, q2, rfl⟩ := Option.map_eq_some_iff.1 hv
  exact nd3 B hi h q1 q2
 rw [if_neg h] at hv; have n3 := h; clear h
 by_cases h : i.Op = 4
 ·rw [if_pos h] at hv
  obtain ⟨c, q1, rfl⟩ := Option.map_eq_some_iff.1 hv
  exact nd4 B hi h q1
 rw [if_neg h] at hv; have n4 := h; clear h
 by_cases h : i.Op = 5
 ·rw [if_pos h] at hv
  obtain ⟨t, q1, rfl⟩ := Option.map_eq_some_iff.1 hv
  exact nd5 B hi h q1
 rw [if_neg h] at hv; have n5 := h; clear h
 by_cases h : i.Op = 6
 ·rw [if_pos h] at hv
  obtain ⟨t1, q1, hv⟩ := Option.bind_eq_some_iff.1 hv
  obtain ⟨t2, q2, rfl⟩ := Option.map_eq_some_iff.1 hv
  exact nd6 B hi h q1 q2
 rw [if_neg h] at hv; have n6 := h; clear h
 by_cases h : i.Op = 21 \/ i.Op = 31
 ·rw [if_pos h] at hv; cases hv
  rcases h with h | h
  ·exact c6X B hi h
  ·exact c6Y B hi h
 rw [if_neg h] at hv; have n7 := h; clear h
 by_cases h : i.Op = 22
 ·rw [if_pos h] at hv
  obtain ⟨t, q1, rfl⟩ := Option.map_eq_some_iff.1 hv
  exact c6Q B hi h q1
 rw [if_neg h] at hv; have n22 := h; clear h
 by_cases h : i.Op = 23
 ·rw [if_pos h] at hv
  obtain ⟨g, q1, hv⟩ := Option.bind_eq_some_iff.1 hv
  by_cases q2 : 0 <= g.Params /\ g.Params <= s.length
  ·rw [if_pos q2] at hv; cases hv
   by_cases hR : g.Result = true
   ·rw [if_pos hR]; exact c3Q B hi h q1 zO zO hR
   ·rw [if_neg hR]; exact c3P B hi h q1 zO zO (by simpa using hR)
  ·rw [if_neg q2] at hv; cases hv
 rw [if_neg h] at hv; have n23 := h; clear h
 by_cases h : i.Op = 25
 ·rw [if_pos h] at hv
  obtain ⟨g, q1, hv⟩ := Option.bind_eq_some_iff.1 hv
  by_cases q2 : 0 <= g.Params /\ g.Params <= s.length
  ·rw [if_pos q2] at hv; cases hv
   exact c6Z B hi h q1 zO zO
  ·rw [if_neg q2] at hv; cases hv
 rw [if_neg h] at hv; have n25 := h; clear h
 by_cases h : i.Op = 24
 ·rw [if_pos h] at hv
  by_cases hR : f.Result = true
  ·rw [if_pos hR] at hv
   obtain ⟨t, q1, rfl⟩ := Option.map_eq_some_iff.1 hv
   exact c3M B hi h hR q1
  ·rw [if_neg hR] at hv; cases hv
   exact c3N B hi h (by simpa using hR)
 rw [if_neg h] at hv; have n24 := h; clear h
 by_cases h : i.Op = 26
 ·rw [if_pos h] at hv
  obtain ⟨t, q1, rfl⟩ := Option.map_eq_some_iff.1 hv
  exact c6R B hi h q1
 rw [if_neg h] at hv; have n26 := h; clear h
 by_cases h : i.Op = 27
 ·rw [if_pos h] at hv; cases hv; exact c6U B hi h
 rw [if_neg h] at hv; have n27 := h; clear h
 by_cases h : i.Op = 28
 ·rw [if_pos h] at hv; cases hv; exact c6V B hi h
 rw [if_neg h] at hv; have n28 := h; clear h
 by_cases h : i.Op = 29
 ·rw [if_pos h] at hv
  obtain ⟨t, q1, rfl⟩ := Option.map_eq_some_iff.1 hv
  exact c6S B hi h q1
 rw [if_neg h] at hv; have n29 := h; clear h
 by_cases h : i.Op = 30
 ·rw [if_pos h] at hv
  obtain ⟨t, q1, rfl⟩ := Option.map_eq_some_iff.1 hv
  exact c6T B hi h q1
 rw [if_neg h] at hv; have n30 := h; clear h
 by_cases h : i.Op = 32
 ·rw [if_pos h] at hv
  obtain ⟨k, q1, hv⟩ := Option.bind_eq_some_iff.1 hv
  obtain ⟨t, q2, rfl⟩ := Option.map_eq_some_iff.1 hv
  exact c6W B hi h q1 q2
 rw [if_neg h] at hv; have n32 := h; clear h
 obtain ⟨t1, q1, hv⟩ := Option.bind_eq_some_iff.1 hv
 obtain ⟨t2, q2, rfl⟩ := Option.map_eq_some_iff.1 hv
 have n21 : i.Op ≠ 21 := fun e => n7 (.inl e)
 have n31 : i.Op ≠ 31 := fun e => n7 (.inr e)
 exact c3O B hi ⟨by simpa using n1, by simpa using n2, by simpa using n3, by simpa using n4, by simpa using n5, by simpa using n6, by simpa using n21, by simpa using n31, by simpa using n22, by simpa using n23, by simpa using n25, by simpa using n24, by simpa using n26, by simpa using n27, by simpa using n28, by simpa using n29, by simpa using n30, by simpa using n32⟩ q1 q2
end
end Go.Proofs.Ytnpemocpfdgaoaa

/- build: which locals are cells: the walk. -/
namespace Go.Proofs.Ytnpemocpfdgaoaa
open Go Go.Ab
set_option maxRecDepth 20000
set_option maxHeartbeats 2000000
noncomputable def c7a : FC := fcO 53
theorem c7b : Fn3 Try.prog 53 88 [] c7a := ⟨_, _, Try.func53, rfl, rfl, rfl, by kernel_rfl⟩

def a3j (f : Func) (k : Nat) : Bool := decide ((k : Int) = f.Keep) || f.Code.any fun x => x.Op == 4 && x.Arg == (k : Int)
def a1M (f : Func) (k : Nat) : Nat := ((List.range k).filter (a3j f)).length
def a0O (f : Func) (k : Nat) : Int := if a3j f k = true then (a1M f k : Int) else -1
def o9 (f : Func) (n k : Nat) : List Int := (List.range n).map fun j => if j < k then a0O f j else 0
theorem a4h {f : Func} {k : Nat} : a1M f (k + 1) = a1M f k + (if a3j f k = true then 1 else 0) := by
 unfold a1M
 rw [List.range_succ, List.filter_append, List.length_append]
 by_cases h : a3j f k = true
 ·simp [h]
 ·simp [h]
theorem a6v {f : Func} {n k : Nat} (h : k < n) : (o9 f n k).set k (a0O f k) = o9 f n (k + 1) := by
 refine List.ext_getElem? fun j => ?_
 unfold o9
 by_cases hj : k = j
 ·subst hj
  rw [List.getElem?_set_self (by simpa using h)]
  simp [h]
 ·rw [List.getElem?_set_ne hj]
  have : j < k + 1 ↔ j < k := by omega
  by_cases hjn : j < n
  ·simp [hjn, this]
  ·simp [hjn]
theorem a9M {f : Func} {n : Nat} : o9 f n 0 = List.replicate n 0 := by
 unfold o9
 refine List.ext_getElem zS fun j h1 h2 => by simp
abbrev bC (p : Program) (f : Func) (c2 pa ki : AV) (n : Int) (ini : AV) (res : Bool) (kp : Int) (no : AV) : List AV := [.cptr (Program.cells p) 0, .cptr (Func.cells f) 0, c2, pa, ki, .int .i64 n, ini, .bool res, .int .i64 kp, no, .int .i64 0]
section
variable {p : Program} {f : Func} {b : Nat}
theorem b1u {c2 pa ki ini no : AV} {res : Bool} {kp : Int} (hl : f.Locals.length < 1000000) (hc : f.Code.length < 1000000) :
  Tri Try.prog 53 [.ptr b 0 0] [(b, 0, bC p f c2 pa ki 0 ini res kp no)] (fun _ L' => ∃ cl, L' = [(b, 0, bC p f (.ref cl 0 0 f.Locals.length none) pa ki (a1M f f.Locals.length) ini res kp no), (cl, 0, flat (avI .i64) (o9 f f.Locals.length f.Locals.length))]) := by
 refine r7 mixed c7b zS [5, 15] (fun R S hS => ?_)
 refine aU ?_
 refine f5 hS rfl (.head _) (v := .cptr (Func.cells f) 0) rfl ?_
 refine aU ?_
 refine b2Y (f := avI .i64) (x := (0 : Int)) (n := f.Locals.length) (n' := f.Locals.length) hS (f7 .i64) rfl rfl rfl rfl zO (fun cl S hS => ?_)
 refine aU ?_
 refine E_stS hS rfl (xv := .ref cl 0 0 f.Locals.length none) rfl (Rp.there Rp.here) rfl rfl zqV (fun S hS => ?_)
 refine aU ?_
 refine f5 hS rfl (.tail _ (.head _)) (v := .ref cl 0 0 f.Locals.length none) rfl ?_
 refine aU ?_
 have hS1 : Ab.Sep S ((cl, 0, flat (avI .i64) (o9 f f.Locals.length 0)) :: (b, 0, bC p f (.ref cl 0 0 f.Locals.length none) pa ki (a1M f 0) ini res kp no) :: ([] ++ R)) := by
  rw [a9M]; exact hS
 clear hS
 refine a6r f.Locals.length (fun _ : Nat => [(0, .ptr b 0 0)]) (fun q => (cl, 0, flat (avI .i64) (o9 f f.Locals.length q)) :: (b, 0, bC p f (.ref cl 0 0 f.Locals.length none) pa ki (a1M f q) ini res kp no) :: ([] ++ R)) (fun k q => q = k) 0 hS1 rfl wF zO zD zD (fun _ => ⟨rfl, rfl, rfl, rfl⟩) (fun k q S hi hI hS => ?_) (fun q fr' S hI hS hw => ?_)
 ·subst hI
  have hcb : a1M f q <= q := by unfold a1M; exact Nat.le_trans (List.length_filter_le _ _) zS
  have hln : (o9 f f.Locals.length q).length = f.Locals.length := by simp [o9]
  refine aU ?_
  refine f5 hS rfl (.tail _ (.head _)) (v := .ref cl 0 0 f.Locals.length none) rfl ?_
  refine aU ?_
  refine y8 rfl rfl q rfl hi ?_
  refine a9h (y' := (-1 : Int)) (l := o9 f f.Locals.length q) hS (f7 .i64) rfl (xv := .int .i64 (-1)) rfl (n := q) (fo := 0) (y := 0) (by simp [g5]) (by simp [o9, hi]) Rp.here rfl rfl (by simp [g5]) rfl (fun S hS => ?_)
  refine aU ?_
  refine f5 hS rfl (.tail _ (.head _)) (v := .cptr (Func.cells f) 0) rfl ?_
  refine aU ?_
  refine f5 hS rfl (.tail _ (.head _)) (v := .cptr (Func.cells f) 0) rfl ?_
  refine aU ?_
  refine a8w (σ := Unit) (fun _ => [(0, .ptr b 0 0), (2, .int .i64 q), (3, .bool (a3j f q)), (23, .int .i64 q), (22, .int .i64 f.Locals.length)]) (fun _ => (cl, 0, flat (avI .i64) ((o9 f f.Locals.length q).set q (-1))) :: (b, 0, bC p f (.ref cl 0 0 f.Locals.length none) pa ki (a1M f q) ini res kp no) :: ([] ++ R)) (fun _ => True) ?_ (fun _ S _ hS => ?_)
  ·refine a6r f.Code.length (fun w : Bool => [(0, .ptr b 0 0), (2, .int .i64 q), (3, .bool w), (23, .int .i64 q), (22, .int .i64 f.Locals.length), (47, .sl false 3 (f.Code.map Instr.av))]) (fun _ => (cl, 0, flat (avI .i64) ((o9 f f.Locals.length q).set q (-1))) :: (b, 0, bC p f (.ref cl 0 0 f.Locals.length none) pa ki (a1M f q) ini res kp no) :: ([] ++ R)) (fun k w => w = (decide ((q : Int) = f.Keep) || (f.Code.take k).any fun x => x.Op == 4 && x.Arg == (q : Int))) ((q : Int) == f.Keep) hS (by simp; rfl) wF zO zD zD (fun _ => ⟨rfl, rfl, rfl, rfl⟩) (fun k w S hi2 hI hS => ?_) (fun w fr' S hI hS hw => ?_)
   ·have hx : f.Code[k]? = some f.Code[k] := List.getElem?_eq_getElem hi2
    refine aU ?_
    refine g7 (esh := some 3) (f := Instr.av) (ys := f.Code) (y := f.Code[k]) (n := (k : Int)) rfl rfl (by unfold j9; rw [if_pos zO]; exact hx) ?_
    refine aU ?_
    refine a1O hS rfl (fun o5 S hS => ?_)
    refine E_stS hS rfl (xv := f.Code[k].av) rfl Rp.here rfl rfl zqV (fun S hS => ?_)
    refine aU ?_
    have htk : ((f.Code.take (k + 1)).any fun x => x.Op == 4 && x.Arg == (q : Int)) = (((f.Code.take k).any fun x => x.Op == 4 && x.Arg == (q : Int)) || (f.Code[k].Op == 4 && f.Code[k].Arg == (q : Int))) := by
     rw [List.take_add_one, hx, List.any_append]; simp
    cases w with
    | true =>
      refine aU ?_
      exact R_n true (by rw [htk, <- Bool.or_assoc, <- hI]; rfl) (hS.sub (List.sublist_cons_self _ _)) wF
    | false =>
      refine aU ?_
      refine f5 hS rfl (.head _) (v := .int .u8 f.Code[k].Op) rfl ?_
      refine aU ?_
      rcases Bool.eq_false_or_eq_true (f.Code[k].Op == 4) with h4 | h4
      ·rw [h4]
       refine aU ?_
       refine f5 hS rfl (.head _) (v := .int .i64 f.Code[k].Arg) rfl ?_
       refine aU ?_
       exact R_n (f.Code[k].Arg == (q : Int)) (by rw [htk, <- Bool.or_assoc, <- hI, h4]; simp) (hS.sub (List.sublist_cons_self _ _)) wF
      ·rw [h4]
       refine aU ?_
       exact R_n false (by rw [htk, <- Bool.or_assoc, <- hI, h4]; simp) (hS.sub (List.sublist_cons_self _ _)) wF
   ·have hw' : w = a3j f q := by rw [hI, List.take_length]; rfl
    subst hw'
    exact x5 ⟨(), trivial, hS, a0Z hw wF⟩
  ·refine aU ?_
   have hset : ((o9 f f.Locals.length q).set q (-1))[q]? = some (-1) := List.getElem?_set_self (by rw [hln]; exact hi)
   refine E_cs (t := a3j f q) rfl (fun hb => ?_) (fun hb => ?_)
   ·refine aU ?_
    refine f5 hS rfl (.tail _ (.head _)) (v := .ref cl 0 0 f.Locals.length none) rfl ?_
    refine aU ?_
    refine f5 hS rfl (.tail _ (.head _)) (v := .int .i64 (a1M f q)) rfl ?_
    refine aU ?_
    refine y8 rfl rfl q rfl hi ?_
    refine a9h (y' := (a1M f q : Int)) (l := (o9 f f.Locals.length q).set q (-1)) hS (f7 .i64) rfl (xv := .int .i64 (a1M f q)) rfl (n := q) (fo := 0) (y := -1) (by simp [g5]) hset Rp.here rfl rfl (by simp [g5]) rfl (fun S hS => ?_)
    refine aU ?_
    refine f5 hS rfl (.tail _ (.head _)) (v := .int .i64 (a1M f q)) rfl ?_
    refine aU ?_
    refine E_stS hS rfl (xv := .int .i64 (a1M f (q + 1))) (by show AV.int .i64 (IntKind.i64.wrap ((a1M f q : Int) + 1)) = _; rw [t7 zO, a4h, if_pos hb]; rfl) (Rp.there Rp.here) rfl rfl zqV (fun S hS => ?_)
    refine aU ?_
    have e1 : ((o9 f f.Locals.length q).set q (-1)).set q (a1M f q : Int) = o9 f f.Locals.length (q + 1) := by
     rw [List.set_set, <- a6v hi, a0O, if_pos hb]
    rw [e1] at hS
    exact R_n (q + 1) rfl hS wF
   ·refine aU ?_
    have e1 : (o9 f f.Locals.length q).set q (-1) = o9 f f.Locals.length (q + 1) := by
     rw [<- a6v hi, a0O, if_neg (by simp [hb])]
    have e2 : a1M f (q + 1) = a1M f q := by rw [a4h, if_neg (by simp [hb])]; rfl
    rw [e1, <- e2] at hS
    exact R_n (q + 1) rfl hS wF
 ·subst hI
  refine ⟨trivial, _, rfl, _, ⟨cl, rfl⟩, ?_⟩
  exact hS.perm (List.Perm.swap _ _ _)
end
end Go.Proofs.Ytnpemocpfdgaoaa

/- build: the graph of a function: the walk. -/
namespace Go.Proofs.Ytnpemocpfdgaoaa
open Go Go.Ab
set_option maxRecDepth 20000
set_option maxHeartbeats 2000000
def c3R : FC := .reg [⟨(some 8), none, .op (.new [.nils, .nils, (.int .i64 0), .nils, (.bool false), (.int .i64 0), .nils, (.int .i64 0)])⟩] []
def c3S : FC := .reg [⟨(some 14), none, .op (.mv (.t 0))⟩,  ⟨(some 15), none, .op (.mv (.t 1))⟩,  ⟨(some 16), none, .op (.mv (.t 1))⟩,  ⟨(some 17), none, .op (.nchk (.t 16))⟩,  ⟨(some 18), none, .op (.fad 2 (.t 17))⟩,  ⟨(some 19), none, .op (.load none (.t 18))⟩,  ⟨(some 20), none, .op (.build [.nils, .nils, (.int .i64 0), .nils, (.bool false), (.int .i64 0), .nils, (.int .i64 0)] [(4, 1, (.t 19)), (5, 1, (.v (.int .i64 (-1))))])⟩,  ⟨(some 21), none, .op (.build [.nilp, .nilp, .nils, .nils, .nils, (.int .i64 0), .nils, (.bool false), (.int .i64 0), .nils, (.int .i64 0)] [(0, 1, (.t 14)), (1, 1, (.t 15)), (3, 8, (.t 20))])⟩,  ⟨(some 22), none, .op (.box (.t 21))⟩,  ⟨(some 9), none, .op (.mv (.t 22))⟩] []
def c3T : FC := .reg [⟨(some 23), none, .op (.mv (.t 9))⟩,  ⟨(some 24), none, .call 53 [(.t 23)]⟩] []
def c3U : FC := .reg [⟨(some 25), none, .op (.mv (.t 9))⟩,  ⟨(some 26), none, .op (.mv (.t 9))⟩,  ⟨(some 27), none, .op (.nchk (.t 26))⟩,  ⟨(some 28), none, .op (.fad 3 (.t 27))⟩,  ⟨(some 29), none, .op (.fad 1 (.t 28))⟩,  ⟨(some 30), none, .op (.load none (.t 29))⟩,  ⟨(some 31), none, .op (.mv (.t 1))⟩,  ⟨(some 32), none, .op (.nchk (.t 31))⟩,  ⟨(some 33), none, .op (.fad 1 (.t 32))⟩,  ⟨(some 34), none, .op (.load none (.t 33))⟩,  ⟨(some 35), none, .op (.app none 1 (.t 30) (.t 34))⟩,  ⟨(some 36), none, .op (.nchk (.t 25))⟩,  ⟨(some 37), none, .op (.fad 3 (.t 36))⟩,  ⟨(some 38), none, .op (.fad 1 (.t 37))⟩,  ⟨none, none, .op (.store 1 (.t 38) (.t 35))⟩] []
def c3V : FC := .reg [⟨(some 39), none, .op (.mv (.v (.int .i64 0)))⟩] []
def c3W : FC := .reg [⟨(some 41), none, .op (.mv (.t 9))⟩,  ⟨(some 42), none, .op (.mv (.t 9))⟩,  ⟨(some 43), none, .op (.nchk (.t 42))⟩,  ⟨(some 44), none, .op (.fad 3 (.t 43))⟩,  ⟨(some 45), none, .op (.fad 1 (.t 44))⟩,  ⟨(some 46), none, .op (.load none (.t 45))⟩,  ⟨(some 47), none, .op (.bsl none [(.int .u8 0)] 2 [(0, 1, (.v (.int .u8 0))), (1, 1, (.v (.int .u8 1)))])⟩,  ⟨(some 48), none, .op (.app none 1 (.t 46) (.t 47))⟩,  ⟨(some 49), none, .op (.nchk (.t 41))⟩,  ⟨(some 50), none, .op (.fad 3 (.t 49))⟩,  ⟨(some 51), none, .op (.fad 1 (.t 50))⟩,  ⟨none, none, .op (.store 1 (.t 51) (.t 48))⟩] []
def c3X : FC := .loop (.seq (.reg [⟨(some 40), none, .op (.bin .none .lss (.t 39) (.v (.int .i64 16)))⟩] []) (.seq (.cond (.t 40) .skip (.exit 0)) (.seq (.block 1 c3W) (.reg [⟨(some 52), none, .op (.bin .none .add (.t 39) (.v (.int .i64 1)))⟩,  ⟨(some 39), none, .op (.mv (.t 52))⟩] []))))
def c3Y : FC := .block 0 c3X
def c3Z : FC := .seq c3V c3Y
def b9I : FC := .reg [⟨(some 53), none, .op (.mv (.t 1))⟩,  ⟨(some 54), none, .op (.nchk (.t 53))⟩,  ⟨(some 55), none, .op (.fad 0 (.t 54))⟩,  ⟨(some 56), none, .op (.load none (.t 55))⟩,  ⟨(some 57), none, .op (.mv (.v (.int .i64 0)))⟩] []
def b9J : FC := .reg [⟨(some 59), none, .op (.mv (.t 57))⟩,  ⟨(some 10), none, .op (.mv (.t 59))⟩] []
def b9K : FC := .reg [⟨(some 60), none, .op (.mv (.t 9))⟩,  ⟨(some 61), none, .op (.mv (.t 9))⟩,  ⟨(some 62), none, .op (.mv (.t 9))⟩,  ⟨(some 63), none, .op (.nchk (.t 62))⟩,  ⟨(some 64), none, .op (.fad 3 (.t 63))⟩,  ⟨(some 65), none, .op (.fad 0 (.t 64))⟩,  ⟨(some 66), none, .op (.load none (.t 65))⟩,  ⟨(some 67), none, .op (.mv (.t 10))⟩,  ⟨(some 68), none, .op (.bsl none [(.int .i64 0)] 1 [(0, 1, (.t 67))])⟩,  ⟨(some 69), none, .op (.app none 8 (.t 66) (.t 68))⟩,  ⟨(some 70), none, .op (.mv (.t 9))⟩,  ⟨(some 71), none, .op (.nchk (.t 70))⟩,  ⟨(some 72), none, .op (.fad 3 (.t 71))⟩,  ⟨(some 73), none, .op (.fad 3 (.t 72))⟩,  ⟨(some 74), none, .op (.load none (.t 73))⟩,  ⟨(some 75), none, .op (.mv (.t 9))⟩,  ⟨(some 76), none, .op (.nchk (.t 75))⟩,  ⟨(some 77), none, .op (.fad 2 (.t 76))⟩,  ⟨(some 78), none, .op (.load none (.t 77))⟩,  ⟨(some 79), none, .op (.mv (.t 10))⟩,  ⟨(some 80), none, .op (.iad none none (.t 78) (.t 79))⟩,  ⟨(some 81), none, .op (.load none (.t 80))⟩,  ⟨(some 82), none, .op (.bsl none [(.int .i64 0)] 1 [(0, 1, (.t 81))])⟩,  ⟨(some 83), none, .op (.app none 8 (.t 74) (.t 82))⟩,  ⟨(some 84), none, .op (.nchk (.t 60))⟩,  ⟨(some 85), none, .op (.fad 3 (.t 84))⟩,  ⟨(some 86), none, .op (.fad 0 (.t 85))⟩,  ⟨none, none, .op (.store 1 (.t 86) (.t 69))⟩,  ⟨(some 87), none, .op (.nchk (.t 61))⟩,  ⟨(some 88), none, .op (.fad 3 (.t 87))⟩,  ⟨(some 89), none, .op (.fad 3 (.t 88))⟩,  ⟨none, none, .op (.store 1 (.t 89) (.t 83))⟩] [(6, 8), (8, 14), (9, 14), (8, 18), (9, 18), (8, 21), (9, 21), (6, 22), (8, 22), (9, 22), (14, 22)]
def b9L : FC := .seq b9J b9K
def b9M : FC := .loop (.seq (.reg [⟨(some 58), none, .op (.bin .none .lss (.t 57) (.t 56))⟩] []) (.seq (.cond (.t 58) .skip (.exit 2)) (.seq (.block 3 b9L) (.reg [⟨(some 90), none, .op (.bin .none .add (.t 57) (.v (.int .i64 1)))⟩,  ⟨(some 57), none, .op (.mv (.t 90))⟩] []))))
def b9N : FC := .block 2 b9M
def b9O : FC := .seq b9I b9N
def b9P : FC := .reg [⟨(some 91), none, .op (.mv (.t 1))⟩,  ⟨(some 92), none, .op (.nchk (.t 91))⟩,  ⟨(some 93), none, .op (.fad 3 (.t 92))⟩,  ⟨(some 94), none, .op (.load none (.t 93))⟩,  ⟨(some 95), none, .op (.bin .none .geq (.t 94) (.v (.int .i64 0)))⟩] []
def b9Q : FC := .reg [⟨(some 96), none, .op (.mv (.t 9))⟩,  ⟨(some 97), none, .op (.mv (.t 9))⟩,  ⟨(some 98), none, .op (.nchk (.t 97))⟩,  ⟨(some 99), none, .op (.fad 2 (.t 98))⟩,  ⟨(some 100), none, .op (.load none (.t 99))⟩,  ⟨(some 101), none, .op (.mv (.t 1))⟩,  ⟨(some 102), none, .op (.nchk (.t 101))⟩,  ⟨(some 103), none, .op (.fad 3 (.t 102))⟩,  ⟨(some 104), none, .op (.load none (.t 103))⟩,  ⟨(some 105), none, .op (.iad none none (.t 100) (.t 104))⟩,  ⟨(some 106), none, .op (.load none (.t 105))⟩,  ⟨(some 107), none, .op (.nchk (.t 96))⟩,  ⟨(some 108), none, .op (.fad 3 (.t 107))⟩,  ⟨(some 109), none, .op (.fad 5 (.t 108))⟩,  ⟨none, none, .op (.store 1 (.t 109) (.t 106))⟩] []
def b9R : FC := .cond (.t 95) b9Q FC.skip
def b9S : FC := .seq b9P b9R
def b9T : FC := .reg [⟨(some 110), none, .op (.mv (.t 2))⟩,  ⟨(some 111), none, .op (.len .sl (.t 110))⟩,  ⟨(some 112), none, .op (.mv (.v (.int .i64 0)))⟩] []
def b9U : FC := .reg [⟨(some 114), none, .op (.mv (.t 112))⟩,  ⟨(some 115), none, .op (.iad none none (.t 110) (.t 112))⟩,  ⟨(some 116), none, .op (.load none (.t 115))⟩,  ⟨(some 11), none, .op (.mv (.t 114))⟩,  ⟨(some 12), none, .op (.mv (.t 116))⟩] []
def b9V : FC := .reg [⟨(some 117), none, .op (.mv (.t 11))⟩,  ⟨(some 118), none, .op (.build [(.int .u8 0), (.int .u8 0), (.int .i64 0), (.int .i64 0), (.int .i64 0), (.int .i64 0), (.int .i64 0), (.int .i64 0), (.int .u64 0), .nils, (.int .i64 0), (.int .i64 0)] [(0, 1, (.v (.int .u8 10))), (10, 1, (.t 117))])⟩,  ⟨(some 13), none, .op (.new [(.int .u8 0), (.int .u8 0), (.int .i64 0), (.int .i64 0), (.int .i64 0), (.int .i64 0), (.int .i64 0), (.int .i64 0), (.int .u64 0), .nils, (.int .i64 0), (.int .i64 0)])⟩,  ⟨none, none, .op (.store 12 (.t 13) (.t 118))⟩] []
def b9W : FC := .reg [⟨(some 119), none, .op (.mv (.t 12))⟩] []
def b9X : FC := .reg [⟨(some 120), none, .op (.mv (.t 9))⟩,  ⟨(some 121), none, .op (.mv (.t 11))⟩,  ⟨(some 122), none, .op (.mv (.t 3))⟩,  ⟨(some 123), none, .op (.mv (.t 11))⟩,  ⟨(some 124), none, .op (.iad none none (.t 122) (.t 123))⟩,  ⟨(some 125), none, .op (.load none (.t 124))⟩,  ⟨(some 126), none, .call 54 [(.t 120), (.t 121), (.t 125)]⟩,  ⟨none, none, .op (.store 12 (.t 13) (.t 126))⟩] []
def b9Y : FC := .cond (.t 119) b9X FC.skip
def b9Z : FC := .seq b9W b9Y
def c0a : FC := .reg [⟨(some 127), none, .op (.mv (.t 9))⟩,  ⟨(some 128), none, .op (.mv (.t 9))⟩,  ⟨(some 129), none, .op (.nchk (.t 128))⟩,  ⟨(some 130), none, .op (.fad 3 (.t 129))⟩,  ⟨(some 131), none, .op (.fad 6 (.t 130))⟩,  ⟨(some 132), none, .op (.load none (.t 131))⟩,  ⟨(some 133), none, .op (.load (some 12) (.t 13))⟩,  ⟨(some 134), none, .op (.bsl (some 12) [(.int .u8 0), (.int .u8 0), (.int .i64 0), (.int .i64 0), (.int .i64 0), (.int .i64 0), (.int .i64 0), (.int .i64 0), (.int .u64 0), .nils, (.int .i64 0), (.int .i64 0)] 1 [(0, 12, (.t 133))])⟩,  ⟨(some 135), none, .op (.app (some 12) 104 (.t 132) (.t 134))⟩,  ⟨(some 136), none, .op (.nchk (.t 127))⟩,  ⟨(some 137), none, .op (.fad 3 (.t 136))⟩,  ⟨(some 138), none, .op (.fad 6 (.t 137))⟩,  ⟨none, none, .op (.store 1 (.t 138) (.t 135))⟩] [(5, 7)]
def c0b : FC := .seq b9Z c0a
def c0c : FC := .seq b9V c0b
def c0d : FC := .seq b9U c0c
def c0e : FC := .loop (.seq (.reg [⟨(some 113), none, .op (.bin .none .lss (.t 112) (.t 111))⟩] []) (.seq (.cond (.t 113) .skip (.exit 4)) (.seq (.block 5 c0d) (.reg [⟨(some 139), none, .op (.bin .none .add (.t 112) (.v (.int .i64 1)))⟩,  ⟨(some 112), none, .op (.mv (.t 139))⟩] []))))
def c0f : FC := .block 4 c0e
def c0g : FC := .seq b9T c0f
def c0h : FC := .reg [⟨(some 140), none, .op (.mv (.t 9))⟩,  ⟨(some 141), none, .op (.nchk (.t 140))⟩,  ⟨(some 142), none, .op (.fad 3 (.t 141))⟩,  ⟨(some 143), none, .op (.load (some 8) (.t 142))⟩,  ⟨none, none, .op (.store 8 (.t 8) (.t 143))⟩] []
def c0i : FC := .seq c0h FC.ret
def c0j : FC := .seq c0g c0i
def c0k : FC := .seq b9S c0j
def c0l : FC := .seq b9O c0k
def c0m : FC := .seq c3Z c0l
def c0n : FC := .seq c3U c0m
def c0o : FC := .seq c3T c0n
def c0p : FC := .seq c3S c0o
def c0q : FC := .seq c3R c0p
def c7c : FC := c0q
theorem c7d : Fn3 Try.prog 29 144 [(8, (some (some 8)))] c7c := ⟨_, _, Try.func29, rfl, rfl, rfl, by kernel_rfl⟩

def ndK (p : Program) (f : Func) (rd : List Bool) (st : List (List Int)) (k : Nat) : Option g6 :=
 (rd[k]?).bind fun is => if is = true then (st[k]?).bind fun s => (j9 f.Code (k : Int)).bind fun i => (ndI p f (o9 f f.Locals.length f.Locals.length) s i).map fun n => { n with Next := t6 f (k : Int) i }
 else some ⟨10, 0, 0, 0, 0, 0, 0, 0, 0, [], (k : Int), 0⟩
def ndS (p : Program) (f : Func) (rd : List Bool) (st : List (List Int)) : Nat -> Option (List g6)
 | 0 => some []
 | k + 1 => (ndS p f rd st k).bind fun l => (ndK p f rd st k).map fun n => l ++ [n]
def m7 : Nat -> List Int
 | 0 => []
 | k + 1 => m7 k ++ [0, 1]
def a7N (p : Program) (f : Func) (rd : List Bool) (st : List (List Int)) : Option b7 :=
 (ndS p f rd st rd.length).bind fun nds =>
  (if 0 <= f.Keep then j9 (o9 f f.Locals.length f.Locals.length) f.Keep else some (-1)).map fun kp =>
   ⟨(List.range f.Params.toNat).map fun (j : Nat) => (j : Int), f.Locals ++ m7 16, a1M f f.Locals.length, (o9 f f.Locals.length f.Locals.length).take f.Params.toNat, f.Result, kp, nds, 0⟩
theorem a4W {p : Program} {f : Func} {rd : List Bool} {st : List (List Int)} : ∀ {k : Nat} {l : List g6}, ndS p f rd st k = some l -> l.length = k /\ ∀ j, j < k -> ∃ l1 n, ndS p f rd st j = some l1 /\ ndK p f rd st j = some n /\ ndS p f rd st (j + 1) = some (l1 ++ [n])
 | 0, l, h => by cases h; exact ⟨rfl, fun j hj => absurd hj zO⟩
 | k + 1, l, h => by
   have h0 := h
   unfold ndS at h
   obtain ⟨l1, h1, h2⟩ := Option.bind_eq_some_iff.1 h
   obtain ⟨n, h3, rfl⟩ := Option.map_eq_some_iff.1 h2
   obtain ⟨a, b⟩ := a4W h1
   refine ⟨by simp [a], fun j hj => ?_⟩
   by_cases hjk : j = k
   ·subst hjk; exact ⟨l1, n, h1, h3, h0⟩
   ·exact b j zO
theorem z3 : ∀ k, (m7 k).length = 2 * k
 | 0 => rfl
 | k + 1 => by show (m7 k ++ [0, 1]).length = _; rw [List.length_append, z3 k]; rfl
theorem b4c {P : Go.Program} {S0 : List Ob} {ow : List Nat} {b : FC} {K K0 : Post} {fr F : Fr} {S : List Ob} (hw : Wk S0 fr S F S) (h : Post.thn (fun fr' S' => ∃ F T, Wk S0 fr' S' F T /\ VT P S0 ow b F T K) K0 .normal F S) : Post.thn (fun fr' S' => ∃ F T, Wk S0 fr' S' F T /\ VT P S0 ow b F T K) K0 .normal fr S := by
 obtain ⟨F2, T2, a, c⟩ := h
 exact ⟨F2, T2, a0Z hw a, c⟩
section
variable {p : Program} {f : Func} {rd : List Bool} {st : List (List Int)}
theorem b1v {g : b7} (hl : f.Locals.length < 1000) (hc : f.Code.length < 100000) (hp : 0 <= f.Params /\ f.Params <= f.Locals.length) (hk0 : f.Keep < f.Locals.length) (hlk : ∀ k ∈ f.Locals, 0 <= k /\ k < 256) (hrd : rd.length < 100000) (hst : ∀ s ∈ st, s.length < 100000 /\ ∀ k ∈ s, 0 <= k /\ k < 256) (hg : a7N p f rd st = some g) :
  Tri Try.prog 29 [.cptr (Program.cells p) 0, .cptr (Func.cells f) 0, .sl false 1 (rd.map avB), .sl false 1 (st.map (avL 1 (avI .u8)))] [] (fun x L' => x = b7.av g /\ L' = []) := by
 obtain ⟨nds, h1, h2⟩ := Option.bind_eq_some_iff.1 hg
 obtain ⟨kp, h3, rfl⟩ := Option.map_eq_some_iff.1 h2
 obtain ⟨np, hnp⟩ : ∃ np : Nat, f.Params = (np : Int) := ⟨f.Params.toNat, by omega⟩
 rw [show f.Params.toNat = np by omega]
 refine r7 mixed c7d zS [8, 13, 22] (fun R S hS => ?_)
 refine aU ?_
 refine a1O hS rfl (fun o8 S hS => ?_)
 refine a7 ?_
 refine d6 ?_
 refine aQ ?_
 refine aU ?_
 refine a8v hS rfl (xv := .agg (bC p f (.nils) (.nils) (.nils) (0) (.nils) f.Result (-1) (.nils))) rfl rfl (fun b S hS => ?_)
 refine aS ?_
 refine a7 ?_
 refine a6u 3 none (Lf := fun o' => (b, 0, bC p f (.nils) (.ref o' 0 0 0 none) (.nils) (0) (.nils) f.Result (-1) (.nils)) :: (o8, 0, [.nils, .nils, .int .i64 0, .nils, .bool false, .int .i64 0, .nils, .int .i64 0]) :: ([] ++ R)) hS (fun o' => Rp.here) rfl (fun pa S hS => ?_)
 refine a6u 4 none (Lf := fun o' => (pa, 0, []) :: (b, 0, bC p f (.nils) (.ref pa 0 0 0 none) (.ref o' 0 0 0 none) (0) (.nils) f.Result (-1) (.nils)) :: (o8, 0, [.nils, .nils, .int .i64 0, .nils, .bool false, .int .i64 0, .nils, .int .i64 0]) :: ([] ++ R)) hS (fun o' => Rp.there Rp.here) rfl (fun ki S hS => ?_)
 refine a6u 6 none (Lf := fun o' => (ki, 0, []) :: (pa, 0, []) :: (b, 0, bC p f (.nils) (.ref pa 0 0 0 none) (.ref ki 0 0 0 none) (0) (.ref o' 0 0 0 none) f.Result (-1) (.nils)) :: (o8, 0, [.nils, .nils, .int .i64 0, .nils, .bool false, .int .i64 0, .nils, .int .i64 0]) :: ([] ++ R)) hS (fun o' => Rp.there (Rp.there Rp.here)) rfl (fun ini S hS => ?_)
 refine b3b 9 (some 12) (Lf := fun o' => (ini, 0, []) :: (ki, 0, []) :: (pa, 0, []) :: (b, 0, bC p f (.nils) (.ref pa 0 0 0 none) (.ref ki 0 0 0 none) (0) (.ref ini 0 0 0 none) f.Result (-1) (.ref o' 0 0 0 (some 12))) :: (o8, 0, [.nils, .nils, .int .i64 0, .nils, .bool false, .int .i64 0, .nils, .int .i64 0]) :: ([] ++ R)) hS (fun o' => Rp.there (Rp.there (Rp.there Rp.here))) rfl (fun no S hS => ?_)
 refine aU ?_
 refine a5N (b1u zO zO) hS rfl (Spl.cons (Pk.there (Pk.there (Pk.there (Pk.there Pk.here)))) Spl.nil) (fun x S L' hL hS => ?_)
 obtain ⟨cl, rfl⟩ := hL
 refine aU ?_
 refine f5 hS rfl (.head _) (v := .ref ki 0 0 0 none) rfl ?_
 refine aU ?_
 refine a6U (o := ki) (ver := 0) (f := avI .u8) (l := []) (m := f.Locals) (j := []) hS (f7 .u8) rfl (u2 f.Locals) (Rp.there (Rp.there (Rp.there (Rp.there Rp.here)))) ⟨by simp; omega, by simp; omega⟩ (fun S hS => ?_)
 refine aU ?_
 refine E_stS hS rfl (xv := .ref ki 1 0 f.Locals.length none) rfl Rp.here rfl rfl zqV (fun S hS => ?_)
 refine a7 ?_
 refine d6 ?_
 refine b1m (σ := Unit) (fun _ => [(1, .cptr (Func.cells f) 0), (2, .sl false 1 (rd.map avB)), (3, .sl false 1 (st.map (avL 1 (avI .u8)))), (8, .ptr o8 0 0), (9, .ptr b 0 0)]) (fun _ => (b, 0, bC p f (.ref cl 0 0 f.Locals.length none) (.ref pa 0 0 0 none) (.ref ki 17 0 (f.Locals.length + 32) none) (a1M f f.Locals.length) (.ref ini 0 0 0 none) f.Result (-1) (.ref no 0 0 0 (some 12))) :: (cl, 0, flat (avI .i64) (o9 f f.Locals.length f.Locals.length)) :: (no, 0, []) :: (ini, 0, []) :: (ki, 17, flat (avI .u8) (f.Locals ++ m7 16)) :: (pa, 0, []) :: (o8, 0, [.nils, .nils, .int .i64 0, .nils, .bool false, .int .i64 0, .nils, .int .i64 0]) :: ([] ++ R)) (fun _ => True) ?_ (fun _ S _ hS => ?_)
 ·refine c7 ?_
  refine a8 ?_
  refine aU ?_
  refine m5 (a4u (σ := Nat) (fun k => [(1, .cptr (Func.cells f) 0), (2, .sl false 1 (rd.map avB)), (3, .sl false 1 (st.map (avL 1 (avI .u8)))), (8, .ptr o8 0 0), (9, .ptr b 0 0), (39, .int .i64 k)]) (fun k => (b, 0, bC p f (.ref cl 0 0 f.Locals.length none) (.ref pa 0 0 0 none) (.ref ki (1 + k) 0 (f.Locals.length + 2 * k) none) (a1M f f.Locals.length) (.ref ini 0 0 0 none) f.Result (-1) (.ref no 0 0 0 (some 12))) :: (cl, 0, flat (avI .i64) (o9 f f.Locals.length f.Locals.length)) :: (no, 0, []) :: (ini, 0, []) :: (ki, 1 + k, flat (avI .u8) (f.Locals ++ m7 k)) :: (pa, 0, []) :: (o8, 0, [.nils, .nils, .int .i64 0, .nils, .bool false, .int .i64 0, .nils, .int .i64 0]) :: ([] ++ R)) (fun k => k <= 16) (fun k => 16 - k) 0 (by rw [show f.Locals ++ m7 0 = f.Locals by simp [m7]]; exact hS) (Nat.zero_le _) wF (fun k S hI hS => ?_))
  refine aU ?_
  by_cases hk : k < 16
  ·refine E_cs (t := true) (by show AV.bool (decide ((k : Int) < 16)) = _; simp; omega) (fun _ => ?_) (fun h => by cases h)
   refine aU ?_
   refine m5 ?_
   refine aU ?_
   refine f5 hS rfl (.head _) (v := .ref ki (1 + k) 0 (f.Locals.length + 2 * k) none) rfl ?_
   refine aU ?_
   refine a6U (o := ki) (ver := 1 + k) (f := avI .u8) (l := f.Locals ++ m7 k) (m := [0, 1]) (j := []) hS (f7 .u8) (by show AV.ref _ _ _ _ _ = _; rw [List.length_append, z3]) (u2 [(0 : Int), 1]) (Rp.there (Rp.there (Rp.there (Rp.there (by rw [List.append_nil]; exact Rp.here))))) ⟨by simp [z3]; omega, by simp [z3]; omega⟩ (fun S hS => ?_)
   refine aU ?_
   refine E_stS hS rfl (xv := .ref ki (1 + (k + 1)) 0 (f.Locals.length + 2 * (k + 1)) none) (by show AV.ref ki (1 + k + 1) 0 ((f.Locals ++ m7 k) ++ [0, 1]).length none = _; rw [List.length_append, List.length_append, z3]; rfl) Rp.here rfl rfl zqV (fun S hS => ?_)
   refine aU ?_
   refine aE ?_
   rw [List.append_assoc] at hS
   refine aU ?_
   exact x5 ⟨k + 1, by omega, by omega, hS, a9G ⟨.refl _, .refl _, .refl _, .refl _, .refl _, by show a5R none (.int .i64 (IntKind.i64.wrap ((k : Int) + 1))) (.int .i64 ((k + 1 : Nat) : Int)); rw [t7 zO]; exact .refl _, trivial⟩⟩
  ·refine E_cs (t := false) (by show AV.bool (decide ((k : Int) < 16)) = _; simp; omega) (fun h => by cases h) (fun _ => ?_)
   have hk16 : k = 16 := by omega
   subst hk16
   refine a2E ?_
   refine aE ?_
   exact x5 ⟨(), trivial, hS, wF⟩
 refine aU ?_
 refine a6r np (fun _ : Nat => [(1, .cptr (Func.cells f) 0), (2, .sl false 1 (rd.map avB)), (3, .sl false 1 (st.map (avL 1 (avI .u8)))), (8, .ptr o8 0 0), (9, .ptr b 0 0)]) (fun q => (b, 0, bC p f (.ref cl 0 0 f.Locals.length none) (.ref pa q 0 q none) (.ref ki 17 0 (f.Locals.length + 32) none) (a1M f f.Locals.length) (.ref ini q 0 q none) f.Result (-1) (.ref no 0 0 0 (some 12))) :: (cl, 0, flat (avI .i64) (o9 f f.Locals.length f.Locals.length)) :: (no, 0, []) :: (ini, q, flat (avI .i64) ((o9 f f.Locals.length f.Locals.length).take q)) :: (ki, 17, flat (avI .u8) (f.Locals ++ m7 16)) :: (pa, q, flat (avI .i64) ((List.range q).map fun (j : Nat) => (j : Int))) :: (o8, 0, [.nils, .nils, .int .i64 0, .nils, .bool false, .int .i64 0, .nils, .int .i64 0]) :: ([] ++ R)) (fun k q => q = k) 0 hS rfl (a9G ⟨.refl _, by show a5R none (.int .i64 f.Params) (.int .i64 (np : Int)); rw [hnp]; exact .refl _, .refl _, .refl _, .refl _, .refl _, .refl _, trivial⟩) zO zD zD (fun _ => ⟨rfl, rfl, rfl, rfl⟩) (fun k q S hi hI hS => ?_) (fun q fr' S hI hS hw => ?_)
 ·subst hI
  have hcl : (o9 f f.Locals.length f.Locals.length)[q]? = some ((o9 f f.Locals.length f.Locals.length)[q]'(by simp [o9]; omega)) := List.getElem?_eq_getElem _
  have hcn : (o9 f f.Locals.length f.Locals.length).length = f.Locals.length := by simp [o9]
  generalize (o9 f f.Locals.length f.Locals.length)[q]'(by simp [o9]; omega) = cq at hcl
  have e1 : (o9 f f.Locals.length f.Locals.length).take q ++ [cq] = (o9 f f.Locals.length f.Locals.length).take (q + 1) := by rw [List.take_add_one, hcl]; rfl
  have e2 : ((List.range q).map fun (j : Nat) => (j : Int)) ++ [(q : Int)] = (List.range (q + 1)).map fun (j : Nat) => (j : Int) := by rw [List.range_succ, List.map_append]; rfl
  have hnd := hS.2
  have hpb : pa ≠ b := fun e => (List.nodup_cons.1 hnd).1 (List.mem_map.2 ⟨_, .tail _ (.tail _ (.tail _ (.tail _ (.head _)))), e⟩)
  have hpc : pa ≠ cl := fun e => (List.nodup_cons.1 (List.nodup_cons.1 hnd).2).1 (List.mem_map.2 ⟨_, .tail _ (.tail _ (.tail _ (.head _))), e⟩)
  have hib : ini ≠ b := fun e => (List.nodup_cons.1 hnd).1 (List.mem_map.2 ⟨_, .tail _ (.tail _ (.head _)), e⟩)
  refine aU ?_
  refine y0 ?_
  refine aU ?_
  refine f5 hS rfl (.head _) (v := .ref pa q 0 q none) rfl ?_
  refine aU ?_
  refine a6U (o := pa) (ver := q) (l := (List.range q).map fun (j : Nat) => (j : Int)) (m := [(q : Int)]) (j := []) hS (f7 .i64) (by show AV.ref _ _ _ _ _ = _; simp) (u2 [(q : Int)]) (Rp.there (Rp.there (Rp.there (Rp.there (Rp.there (by rw [List.append_nil]; exact Rp.here)))))) ⟨by simp; omega, by simp; omega⟩ (fun S hS => ?_)
  refine aU ?_
  refine f5 hS rfl (.head _) (v := .ref ini q 0 q none) rfl ?_
  refine aU ?_
  refine f5 hS rfl (.head _) (v := .ref cl 0 0 f.Locals.length none) rfl ?_
  refine aU ?_
  refine y8 rfl rfl q rfl zO ?_
  refine a6s hS (f7 .i64) rfl (.tail _ (.head _)) (n := q) (fo := 0) (y := cq) (by simp [g5]) hcl (v := .int .i64 cq) rfl ?_
  refine aU ?_
  refine a6U (o := ini) (ver := q) (l := (o9 f f.Locals.length f.Locals.length).take q) (m := [cq]) (j := []) hS (f7 .i64) (by show AV.ref _ _ _ _ _ = _; rw [List.length_take, hcn, Nat.min_eq_left zO]) (u2 [cq]) (Rp.there (Rp.there (Rp.there (by rw [List.append_nil]; exact Rp.here)))) ⟨by simp [hcn]; omega, by simp [hcn]; omega⟩ (fun S hS => ?_)
  refine aU ?_
  refine E_stS hS rfl (xv := .ref pa (q + 1) 0 (q + 1) none) (by show AV.ref pa (q + 1) 0 (((List.range q).map fun (j : Nat) => (j : Int)) ++ [(q : Int)]).length none = _; simp) Rp.here rfl rfl zqV (fun S hS => ?_)
  refine aU ?_
  refine E_stS hS rfl (xv := .ref ini (q + 1) 0 (q + 1) none) (by show AV.ref ini (q + 1) 0 ((o9 f f.Locals.length f.Locals.length).take q ++ [cq]).length none = _; rw [List.length_append, List.length_take, hcn, Nat.min_eq_left zO]; rfl) Rp.here rfl rfl zqV (fun S hS => ?_)
  refine a7 ?_
  refine And.intro (by simp [z5, a3A, u7, a0H, hpb, hpc, hib, Ne.symm hpb, Ne.symm hpc, Ne.symm hib]) ?_
  rw [e1, e2] at hS
  refine aU ?_
  exact R_n (q + 1) rfl hS wF
 rw [hI] at hS
 refine z9 hw ?_
 refine b1m (σ := Unit) (fun _ => [(1, .cptr (Func.cells f) 0), (2, .sl false 1 (rd.map avB)), (3, .sl false 1 (st.map (avL 1 (avI .u8)))), (8, .ptr o8 0 0), (9, .ptr b 0 0)]) (fun _ => (b, 0, bC p f (.ref cl 0 0 f.Locals.length none) (.ref pa np 0 np none) (.ref ki 17 0 (f.Locals.length + 32) none) (a1M f f.Locals.length) (.ref ini np 0 np none) f.Result (kp) (.ref no 0 0 0 (some 12))) :: (cl, 0, flat (avI .i64) (o9 f f.Locals.length f.Locals.length)) :: (no, 0, []) :: (ini, np, flat (avI .i64) ((o9 f f.Locals.length f.Locals.length).take np)) :: (ki, 17, flat (avI .u8) (f.Locals ++ m7 16)) :: (pa, np, flat (avI .i64) ((List.range np).map fun (j : Nat) => (j : Int))) :: (o8, 0, [.nils, .nils, .int .i64 0, .nils, .bool false, .int .i64 0, .nils, .int .i64 0]) :: ([] ++ R)) (fun _ => True) ?_ (fun _ S _ hS => ?_)
 ·refine c7 ?_
  refine a8 ?_
  refine aU ?_
  by_cases hkp : 0 <= f.Keep
  ·rw [if_pos hkp] at h3
   obtain ⟨k1, k2, k3⟩ := f6 h3
   refine E_cs (t := true) (by show AV.bool (decide (f.Keep >= 0)) = _; simp [hkp]) (fun _ => ?_) (fun h => by cases h)
   refine aU ?_
   refine f5 hS rfl (.head _) (v := .ref cl 0 0 f.Locals.length none) rfl ?_
   refine aU ?_
   refine y8 rfl rfl f.Keep.toNat zO zO ?_
   refine a6s hS (f7 .i64) rfl (.tail _ (.head _)) (n := f.Keep.toNat) (fo := 0) (y := kp) (by simp [g5]) k3 (v := .int .i64 kp) rfl ?_
   refine aU ?_
   refine E_stS hS rfl (xv := .int .i64 kp) rfl Rp.here rfl rfl zqV (fun S hS => ?_)
   refine aU ?_
   exact x5 ⟨(), trivial, hS, wF⟩
  ·rw [if_neg hkp] at h3; cases h3
   refine E_cs (t := false) (by show AV.bool (decide (f.Keep >= 0)) = _; simp; omega) (fun h => by cases h) (fun _ => ?_)
   refine aU ?_
   exact x5 ⟨(), trivial, hS, wF⟩
 refine c7 ?_
 refine c7 ?_
 refine a8 ?_
 refine aU ?_
 refine a6r rd.length (fun _ : List g6 => [(1, .cptr (Func.cells f) 0), (2, .sl false 1 (rd.map avB)), (3, .sl false 1 (st.map (avL 1 (avI .u8)))), (8, .ptr o8 0 0), (9, .ptr b 0 0), (110, .sl false 1 (rd.map avB))]) (fun l => (b, 0, bC p f (.ref cl 0 0 f.Locals.length none) (.ref pa np 0 np none) (.ref ki 17 0 (f.Locals.length + 32) none) (a1M f f.Locals.length) (.ref ini np 0 np none) f.Result (kp) (.ref no l.length 0 l.length (some 12))) :: (cl, 0, flat (avI .i64) (o9 f f.Locals.length f.Locals.length)) :: (no, l.length, flat g6.av l) :: (ini, np, flat (avI .i64) ((o9 f f.Locals.length f.Locals.length).take np)) :: (ki, 17, flat (avI .u8) (f.Locals ++ m7 16)) :: (pa, np, flat (avI .i64) ((List.range np).map fun (j : Nat) => (j : Int))) :: (o8, 0, [.nils, .nils, .int .i64 0, .nils, .bool false, .int .i64 0, .nils, .int .i64 0]) :: ([] ++ R)) (fun k l => ndS p f rd st k = some l) [] hS rfl wF zO zD zD (fun _ => ⟨rfl, rfl, rfl, rfl⟩) (fun k l S hi hI hS => ?_) (fun l fr' S hI hS hw => ?_)
 ·obtain ⟨hlen, _⟩ := a4W hI
  obtain ⟨_, hall⟩ := a4W h1
  obtain ⟨l1, nd, a1, a2, a3⟩ := hall k hi
  rw [hI] at a1; cases a1
  have hrk : rd[k]? = some rd[k] := List.getElem?_eq_getElem hi
  refine aU ?_
  refine g7 (esh := none) (f := avB) (ys := rd) (y := rd[k]) (n := (k : Int)) rfl rfl (by unfold j9; rw [if_pos zO]; exact hrk) ?_
  refine aU ?_
  refine a1O hS rfl (fun o13 S hS => ?_)
  refine E_stS hS rfl (xv := .agg (nX .nils (⟨10, 0, 0, 0, 0, 0, 0, 0, 0, [], (k : Int), 0⟩ : g6))) rfl Rp.here rfl rfl zqV (fun S hS => ?_)
  refine a7 ?_
  refine a6u 9 none (Lf := fun o' => (o13, 0, nX (.ref o' 0 0 0 none) (⟨10, 0, 0, 0, 0, 0, 0, 0, 0, [], (k : Int), 0⟩ : g6)) :: (b, 0, bC p f (.ref cl 0 0 f.Locals.length none) (.ref pa np 0 np none) (.ref ki 17 0 (f.Locals.length + 32) none) (a1M f f.Locals.length) (.ref ini np 0 np none) f.Result (kp) (.ref no l.length 0 l.length (some 12))) :: (cl, 0, flat (avI .i64) (o9 f f.Locals.length f.Locals.length)) :: (no, l.length, flat g6.av l) :: (ini, np, flat (avI .i64) ((o9 f f.Locals.length f.Locals.length).take np)) :: (ki, 17, flat (avI .u8) (f.Locals ++ m7 16)) :: (pa, np, flat (avI .i64) ((List.range np).map fun (j : Nat) => (j : Int))) :: (o8, 0, [.nils, .nils, .int .i64 0, .nils, .bool false, .int .i64 0, .nils, .int .i64 0]) :: ([] ++ R)) hS (fun o' => Rp.here) rfl (fun q9 S hS => ?_)
  refine b1r (o := q9) (ver := 0) (o2 := o13) (v2 := 0) (jx := 9) (l := ([] : List Int)) (cs2 := nX (.ref q9 0 0 0 none) (⟨10, 0, 0, 0, 0, 0, 0, 0, 0, [], (k : Int), 0⟩ : g6)) (f7 .i64) hS Pk.here rfl Rp.here (fun S hS => ?_)
  have hS2 : Ab.Sep S ((o13, 0, g6.cells (⟨10, 0, 0, 0, 0, 0, 0, 0, 0, [], (k : Int), 0⟩ : g6)) :: (b, 0, bC p f (.ref cl 0 0 f.Locals.length none) (.ref pa np 0 np none) (.ref ki 17 0 (f.Locals.length + 32) none) (a1M f f.Locals.length) (.ref ini np 0 np none) f.Result (kp) (.ref no l.length 0 l.length (some 12))) :: (cl, 0, flat (avI .i64) (o9 f f.Locals.length f.Locals.length)) :: (no, l.length, flat g6.av l) :: (ini, np, flat (avI .i64) ((o9 f f.Locals.length f.Locals.length).take np)) :: (ki, 17, flat (avI .u8) (f.Locals ++ m7 16)) :: (pa, np, flat (avI .i64) ((List.range np).map fun (j : Nat) => (j : Int))) :: (o8, 0, [.nils, .nils, .int .i64 0, .nils, .bool false, .int .i64 0, .nils, .int .i64 0]) :: ([] ++ R)) := hS
  clear hS
  have hS := hS2
  clear hS2
  refine b1m (σ := Unit) (fun _ => [(1, .cptr (Func.cells f) 0), (2, .sl false 1 (rd.map avB)), (3, .sl false 1 (st.map (avL 1 (avI .u8)))), (8, .ptr o8 0 0), (9, .ptr b 0 0), (110, .sl false 1 (rd.map avB)), (11, .int .i64 k), (13, .ptr o13 0 0), (112, .int .i64 k), (111, .int .i64 rd.length)]) (fun _ => (o13, 0, g6.cells nd) :: (b, 0, bC p f (.ref cl 0 0 f.Locals.length none) (.ref pa np 0 np none) (.ref ki 17 0 (f.Locals.length + 32) none) (a1M f f.Locals.length) (.ref ini np 0 np none) f.Result (kp) (.ref no l.length 0 l.length (some 12))) :: (cl, 0, flat (avI .i64) (o9 f f.Locals.length f.Locals.length)) :: (no, l.length, flat g6.av l) :: (ini, np, flat (avI .i64) ((o9 f f.Locals.length f.Locals.length).take np)) :: (ki, 17, flat (avI .u8) (f.Locals ++ m7 16)) :: (pa, np, flat (avI .i64) ((List.range np).map fun (j : Nat) => (j : Int))) :: (o8, 0, [.nils, .nils, .int .i64 0, .nils, .bool false, .int .i64 0, .nils, .int .i64 0]) :: ([] ++ R)) (fun _ => True) ?_ (fun _ S _ hS => ?_)
  ·refine c7 ?_
   refine a8 ?_
   refine aU ?_
   unfold ndK at a2
   rw [hrk, Option.bind_some] at a2
   by_cases hb : rd[k] = true
   ·rw [if_pos hb] at a2
    obtain ⟨s, b1, a2⟩ := Option.bind_eq_some_iff.1 a2
    obtain ⟨i, b2, a2⟩ := Option.bind_eq_some_iff.1 a2
    obtain ⟨n0, b3, rfl⟩ := Option.map_eq_some_iff.1 a2
    obtain ⟨c1, c2⟩ := hst s (List.mem_of_getElem? b1)
    refine E_cs (t := true) (by show AV.bool rd[k] = _; rw [hb]) (fun _ => ?_) (fun h => by cases h)
    refine aU ?_
    refine g7 (esh := none) (f := avL 1 (avI .u8)) (ys := st) (y := s) (n := (k : Int)) rfl rfl (by unfold j9; rw [if_pos zO]; exact b1) ?_
    refine aU ?_
    have hB : NB p f cl (bC p f (.ref cl 0 0 f.Locals.length none) (.ref pa np 0 np none) (.ref ki 17 0 (f.Locals.length + 32) none) (a1M f f.Locals.length) (.ref ini np 0 np none) f.Result (kp) (.ref no l.length 0 l.length (some 12))) (o9 f f.Locals.length f.Locals.length) s (k : Int) := ⟨rfl, rfl, by show some (AV.ref cl 0 0 f.Locals.length none) = _; rw [show (o9 f f.Locals.length f.Locals.length).length = f.Locals.length by simp [o9]], by omega, by omega, c2, by omega, by omega⟩
    refine a5N (b3f (b := b) (cl := cl) hB hlk b2 b3) hS rfl (Spl.cons (Pk.there Pk.here) (Spl.cons (Pk.there Pk.here) Spl.nil)) (fun x S L' hL hS => ?_)
    obtain ⟨rfl, rfl⟩ := hL
    refine E_stS hS rfl (xv := g6.av { n0 with Next := t6 f (k : Int) i }) rfl (Rp.there (Rp.there Rp.here)) rfl rfl zqV (fun S hS => ?_)
    refine aU ?_
    exact x5 ⟨(), trivial, hS.perm (Spl.cons (Pk.there (Pk.there Pk.here)) (Spl.cons Pk.here (Spl.cons Pk.here (Spl.cons Pk.here (Spl.cons Pk.here (Spl.cons Pk.here (Spl.cons Pk.here (Spl.cons Pk.here (.refl _))))))))), wF⟩
   ·rw [if_neg hb] at a2; cases a2
    refine E_cs (t := false) (by show AV.bool rd[k] = _; simpa using hb) (fun h => by cases h) (fun _ => ?_)
    refine aU ?_
    exact x5 ⟨(), trivial, hS, wF⟩
  ·refine y0 ?_
   refine aU ?_
   refine f5 hS rfl (.tail _ (.head _)) (v := .ref no l.length 0 l.length (some 12)) rfl ?_
   refine aU ?_
   refine f5 hS rfl (.head _) (v := g6.av nd) rfl ?_
   refine aU ?_
   refine a6U (o := no) (ver := l.length) (f := g6.av) (l := l) (m := [nd]) (j := []) hS g6.enc rfl (u2 (f := g6.av) (esh := some 12) [nd]) (Rp.there (Rp.there (Rp.there (by rw [List.append_nil]; exact Rp.here)))) ⟨by simp; omega, by simp; omega⟩ (fun S hS => ?_)
   refine aU ?_
   refine E_stS hS rfl (xv := .ref no (l.length + 1) 0 (l.length + 1) (some 12)) (by show AV.ref no (l.length + 1) 0 (l ++ [nd]).length (some 12) = _; simp) (Rp.there Rp.here) rfl rfl zqV (fun S hS => ?_)
   refine a7 ?_
   refine And.intro (by simp [z5, a3A, u7, a0H]) ?_
   refine aE ?_
   have el : (l ++ [nd]).length = l.length + 1 := by simp
   exact R_n (l ++ [nd]) a3 (by rw [el]; exact hS.sub (List.sublist_cons_self _ _)) wF
 ·rw [h1] at hI; cases hI
  refine b4c (F := [(1, .cptr (Func.cells f) 0), (2, .sl false 1 (rd.map avB)), (3, .sl false 1 (st.map (avL 1 (avI .u8)))), (8, .ptr o8 0 0), (9, .ptr b 0 0)]) (a0Z hw wF) ?_
  have hcn : (o9 f f.Locals.length f.Locals.length).length = f.Locals.length := by simp [o9]
  refine b1t (o := pa) (ver := np) (o2 := b) (v2 := 0) (jx := 3) (l := ((List.range np).map fun (j : Nat) => (j : Int))) (cs2 := bC p f (.ref cl 0 0 f.Locals.length none) (.ref pa np 0 np none) (.ref ki 17 0 (f.Locals.length + 32) none) (a1M f f.Locals.length) (.ref ini np 0 np none) f.Result (kp) (.ref no nds.length 0 nds.length (some 12))) (f7 .i64) hS (Pk.there (Pk.there (Pk.there (Pk.there (Pk.there Pk.here))))) (by show some (AV.ref pa np 0 np none) = _; simp) Rp.here (fun S hS => ?_)
  refine b1t (o := ki) (ver := 17) (o2 := b) (v2 := 0) (jx := 4) (l := (f.Locals ++ m7 16)) (cs2 := bC p f (.ref cl 0 0 f.Locals.length none) (.sl false (g5 none) (List.map (avI .i64) ((List.range np).map fun (j : Nat) => (j : Int)))) (.ref ki 17 0 (f.Locals.length + 32) none) (a1M f f.Locals.length) (.ref ini np 0 np none) f.Result (kp) (.ref no nds.length 0 nds.length (some 12))) (f7 .u8) hS (Pk.there (Pk.there (Pk.there (Pk.there Pk.here)))) (by show some (AV.ref ki 17 0 (f.Locals.length + 32) none) = _; rw [List.length_append, z3]) Rp.here (fun S hS => ?_)
  refine b1t (o := ini) (ver := np) (o2 := b) (v2 := 0) (jx := 6) (l := ((o9 f f.Locals.length f.Locals.length).take np)) (cs2 := bC p f (.ref cl 0 0 f.Locals.length none) (.sl false (g5 none) (List.map (avI .i64) ((List.range np).map fun (j : Nat) => (j : Int)))) (.sl false (g5 none) (List.map (avI .u8) (f.Locals ++ m7 16))) (a1M f f.Locals.length) (.ref ini np 0 np none) f.Result (kp) (.ref no nds.length 0 nds.length (some 12))) (f7 .i64) hS (Pk.there (Pk.there (Pk.there Pk.here))) (by show some (AV.ref ini np 0 np none) = _; rw [List.length_take, hcn, Nat.min_eq_left zO]) Rp.here (fun S hS => ?_)
  refine b1r (o := no) (ver := nds.length) (o2 := b) (v2 := 0) (jx := 9) (l := nds) (cs2 := bC p f (.ref cl 0 0 f.Locals.length none) (.sl false (g5 none) (List.map (avI .i64) ((List.range np).map fun (j : Nat) => (j : Int)))) (.sl false (g5 none) (List.map (avI .u8) (f.Locals ++ m7 16))) (a1M f f.Locals.length) (.sl false (g5 none) (List.map (avI .i64) ((o9 f f.Locals.length f.Locals.length).take np))) f.Result (kp) (.ref no nds.length 0 nds.length (some 12))) g6.enc hS (Pk.there (Pk.there Pk.here)) rfl Rp.here (fun S hS => ?_)
  refine aU ?_
  refine f5 hS rfl (.head _) (v := b7.av ⟨((List.range np).map fun (j : Nat) => (j : Int)), (f.Locals ++ m7 16), a1M f f.Locals.length, ((o9 f f.Locals.length f.Locals.length).take np), f.Result, kp, nds, 0⟩) rfl ?_
  refine aU ?_
  refine E_stS hS rfl (xv := b7.av ⟨((List.range np).map fun (j : Nat) => (j : Int)), (f.Locals ++ m7 16), a1M f f.Locals.length, ((o9 f f.Locals.length f.Locals.length).take np), f.Result, kp, nds, 0⟩) rfl (Rp.there (Rp.there Rp.here)) rfl rfl zqV (fun S hS => ?_)
  refine aU ?_
  refine f8 ?_
  refine aE ?_
  exact ⟨trivial, _, l7 rfl (hS.at (.tail _ (.tail _ (.head _)))) rfl, [], ⟨rfl, rfl⟩, hS.sub (.cons _ (.cons _ (.cons _ (List.Sublist.refl _))))⟩
end
end Go.Proofs.Ytnpemocpfdgaoaa

/- build.Build: the walk. -/
namespace Go.Proofs.Ytnpemocpfdgaoaa
open Go Go.Ab
set_option maxRecDepth 20000
set_option maxHeartbeats 2000000
noncomputable def c7e : FC := fcO 13
theorem c5L : Fn3 Try.prog 13 49 [(2, (some (some 1))), (3, none)] c7e := ⟨_, _, Try.func13, rfl, rfl, rfl, by kernel_rfl⟩

theorem a7O {S : List Ob} {F : Fm} {t o ver n t2 : Nat} {cs : List AV} {v2 : AV} (h : F t = .ptr o ver 0) (ho : hp S o = .arr ver cs) (hn : cs.length = n) (h2 : F t2 = v2) : a2y S F [(t, some (some n)), (t2, none)] = some (.tup [.agg cs, v2]) := by
 simp [a2y, a6P, b4J, a7A, x7, h, ho, a0d, <- hn, h2]
def gsS (p : Program) (ty : a0P) : Nat -> Option (List b7)
 | 0 => some []
 | k + 1 => (gsS p ty k).bind fun l => (p.Funcs[k]?).bind fun f => (ty.Reached[k]?).bind fun rd => (ty.Stacks[k]?).bind fun st => (a7N p f rd st).map fun g => l ++ [g]
theorem a6Y {p : Program} {ty : a0P} : ∀ {k : Nat} {l : List b7}, gsS p ty k = some l -> l.length = k /\ ∀ j, j < k -> ∃ l1 f rd st g, gsS p ty j = some l1 /\ p.Funcs[j]? = some f /\ ty.Reached[j]? = some rd /\ ty.Stacks[j]? = some st /\ a7N p f rd st = some g /\ gsS p ty (j + 1) = some (l1 ++ [g])
 | 0, l, h => by cases h; exact ⟨rfl, fun j hj => absurd hj zO⟩
 | k + 1, l, h => by
   have h0 := h
   unfold gsS at h
   obtain ⟨l1, h1, h⟩ := Option.bind_eq_some_iff.1 h
   obtain ⟨f, h2, h⟩ := Option.bind_eq_some_iff.1 h
   obtain ⟨rd, h3, h⟩ := Option.bind_eq_some_iff.1 h
   obtain ⟨st, h4, h⟩ := Option.bind_eq_some_iff.1 h
   obtain ⟨g, h5, rfl⟩ := Option.map_eq_some_iff.1 h
   obtain ⟨a, b⟩ := a6Y h1
   refine ⟨by simp [a], fun j hj => ?_⟩
   by_cases hjk : j = k
   ·subst hjk; exact ⟨l1, f, rd, st, g, h1, h2, h3, h4, h5, h0⟩
   ·exact b j zO
section
variable {p : Program}
theorem a9N {o : Option a0P} {e : Int} (hk : v8 1048577 p = some (o, e)) (he : e ≠ 0) : Tri Try.prog 13 [Program.av p] [] (fun x L' => x = .tup [l0.av ⟨[]⟩, .int .i64 e] /\ L' = []) := by
 refine Tri.weakr (r0 := .tup [.agg [.nils], .int .i64 e]) ?_ (.tup rfl fun j h1 h2 => ?_)
 ·refine r7 mixed c5L zS [1, 2, 6] (fun R S hS => ?_)
  refine aU ?_
  refine a8v hS rfl (xv := Program.av p) rfl rfl (fun pb S hS => ?_)
  refine aU ?_
  refine a1O hS rfl (fun o2 S hS => ?_)
  refine aS ?_
  refine a7 ?_
  refine b5a 1 hS (Pk.there Pk.here) (by exact Program.enc.blw p 0) rfl (fun S hS => ?_)
  refine aU ?_
  refine a9a (a3E hk) rfl (i7 ⟨Program.enc.blw p 0, trivial⟩) (a1G ⟨(by cases o with | none => rfl | some x => exact w8 (a0P.enc.blw x 0)), rfl, trivial⟩) ?_
  refine aU ?_
  refine E_cs (t := true) (by show AV.bool (e != 0) = _; simp [he]) (fun _ => ?_) (fun h => by cases h)
  refine aU ?_
  refine E_stS hS rfl (xv := .agg [.nils]) rfl Rp.here rfl rfl zqV (fun S hS => ?_)
  refine aU ?_
  refine f8 ?_
  refine aE ?_
  exact ⟨trivial, _, a7O rfl (hS.at (.head _)) rfl rfl, [], ⟨rfl, rfl⟩, hS.sub (List.sublist_cons_self _ _)⟩
 ·match j, h1 with
  | 0, _ =>
    refine .agg rfl fun j h1 h2 => ?_
    match j, h1 with
    | 0, _ => exact .nil
  | 1, _ => exact .refl _
theorem b1w {ty : a0P} {gs : List b7} (hk : v8 1048577 p = some (some ty, 0)) (hb : ∀ f ∈ p.Funcs, f.Locals.length < 1000 /\ f.Code.length < 100000 /\ (0 <= f.Params /\ f.Params <= f.Locals.length) /\ f.Keep < f.Locals.length /\ ∀ k ∈ f.Locals, 0 <= k /\ k < 256) (hn : p.Funcs.length < 100000) (hrd : ∀ rd ∈ ty.Reached, rd.length < 100000) (hst : ∀ st ∈ ty.Stacks, ∀ s ∈ st, s.length < 100000 /\ ∀ k ∈ s, 0 <= k /\ k < 256) (hg : gsS p ty p.Funcs.length = some gs) :
  Tri Try.prog 13 [Program.av p] [] (fun x L' => x = .tup [l0.av ⟨gs⟩, .int .i64 0] /\ L' = []) := by
 refine r7 mixed c5L zS [1, 2, 6] (fun R S hS => ?_)
 refine aU ?_
 refine a8v hS rfl (xv := Program.av p) rfl rfl (fun pb S hS => ?_)
 refine aU ?_
 refine a1O hS rfl (fun o2 S hS => ?_)
 refine aS ?_
 refine a7 ?_
 refine b5a 1 hS (Pk.there Pk.here) (by exact Program.enc.blw p 0) rfl (fun S hS => ?_)
 refine aU ?_
 refine a9a (a3E hk) rfl (i7 ⟨Program.enc.blw p 0, trivial⟩) (a1G ⟨w8 (a0P.enc.blw ty 0), rfl, trivial⟩) ?_
 refine aU ?_
 refine E_cs (t := false) rfl (fun h => by cases h) (fun _ => ?_)
 refine d9 ?_
 refine d6 ?_
 refine aQ ?_
 refine aS ?_
 refine a1O hS rfl (fun o6 S hS => ?_)
 refine a7 ?_
 refine b3b 0 (some 8) (Lf := fun o' => (o6, 0, [.ref o' 0 0 0 (some 8)]) :: (o2, 0, [.nils]) :: ([] ++ R)) hS (fun o' => Rp.here) rfl (fun gl S hS => ?_)
 refine c7 ?_
 refine c7 ?_
 refine a8 ?_
 refine aU ?_
 refine a6r p.Funcs.length (fun _ : List b7 => [(1, .cptr (Program.cells p) 0), (2, .ptr o2 0 0), (4, .cptr (a0P.cells ty) 0), (6, .ptr o6 0 0)]) (fun l => (gl, l.length, flat b7.av l) :: (o6, 0, [.ref gl l.length 0 l.length (some 8)]) :: (o2, 0, [.nils]) :: ([] ++ R)) (fun k l => gsS p ty k = some l) [] hS rfl wF zO zD zD (fun _ => ⟨rfl, rfl, rfl, rfl⟩) (fun k l S hi hI hS => ?_) (fun l fr' S hI hS hw => ?_)
 ·obtain ⟨hlen, _⟩ := a6Y hI
  obtain ⟨_, hall⟩ := a6Y hg
  obtain ⟨l1, f, rd, st, g, a1, a2, a3, a4, a5, a6⟩ := hall k hi
  rw [hI] at a1; cases a1
  obtain ⟨b1, b2, b3, b4, b5⟩ := hb f (List.mem_of_getElem? a2)
  refine aU ?_
  refine y0 ?_
  refine aU ?_
  refine f5 hS rfl (.tail _ (.head _)) (v := .ref gl l.length 0 l.length (some 8)) rfl ?_
  refine aU ?_
  refine g7 (esh := some 5) (f := Func.av) (ys := p.Funcs) (y := f) (n := (k : Int)) rfl rfl (by unfold j9; rw [if_pos zO]; exact a2) ?_
  refine aU ?_
  refine g7 (esh := none) (f := avL 1 avB) (ys := ty.Reached) (y := rd) (n := (k : Int)) rfl rfl (by unfold j9; rw [if_pos zO]; exact a3) ?_
  refine aU ?_
  refine g7 (esh := none) (f := avL 1 (avL 1 (avI .u8))) (ys := ty.Stacks) (y := st) (n := (k : Int)) rfl rfl (by unfold j9; rw [if_pos zO]; exact a4) ?_
  refine aU ?_
  have hm1 := hS.at (.tail _ (.head _))
  refine a5N (b1v b1 b2 b3 b4 b5 (hrd rd (List.mem_of_getElem? a3)) (hst st (List.mem_of_getElem? a4)) a5) hS rfl Spl.nil (fun x S L' hL hS => ?_)
  obtain ⟨rfl, rfl⟩ := hL
  have hm2 := hS.at (.tail _ (.head _))
  refine aU ?_
  refine a6U (o := gl) (ver := l.length) (f := b7.av) (l := l) (m := [g]) (j := []) hS b7.enc rfl (u2 (f := b7.av) (esh := some 8) [g]) (by rw [List.append_nil]; exact Rp.here) ⟨by simp; omega, by simp; omega⟩ (fun S hS => ?_)
  refine aU ?_
  refine E_stS hS rfl (xv := .ref gl (l.length + 1) 0 (l.length + 1) (some 8)) (by show AV.ref gl (l.length + 1) 0 (l ++ [g]).length (some 8) = _; simp) (Rp.there Rp.here) rfl rfl zqV (fun S hS => ?_)
  refine a7 ?_
  refine And.intro ⟨⟨rfl, fun x hx => by rw [List.mem_singleton.1 hx]; exact hm2.trans hm1.symm⟩, by simp [z5, a3A, u7, a0H]⟩ ?_
  refine aE ?_
  have el : (l ++ [g]).length = l.length + 1 := by simp
  exact R_n (l ++ [g]) a6 (by rw [el]; exact hS) wF
 ·rw [hg] at hI; cases hI
  refine b4c (F := [(2, .ptr o2 0 0), (6, .ptr o6 0 0)]) (a0Z hw wF) ?_
  refine b1r (o := gl) (ver := gs.length) (o2 := o6) (v2 := 0) (jx := 0) (l := gs) (cs2 := [.ref gl gs.length 0 gs.length (some 8)]) b7.enc hS Pk.here rfl Rp.here (fun S hS => ?_)
  refine aU ?_
  refine f5 hS rfl (.head _) (v := l0.av ⟨gs⟩) rfl ?_
  refine aU ?_
  refine E_stS hS rfl (xv := l0.av ⟨gs⟩) rfl (Rp.there Rp.here) rfl rfl zqV (fun S hS => ?_)
  refine aU ?_
  refine f8 ?_
  refine aE ?_
  exact ⟨trivial, _, a7O rfl (hS.at (.tail _ (.head _))) rfl rfl, [], ⟨rfl, rfl⟩, hS.sub (.cons _ (.cons _ (List.Sublist.refl _)))⟩
end
end Go.Proofs.Ytnpemocpfdgaoaa

/- ref8's push: the walk. -/
namespace Go.Proofs.Ytnpemocpfdgaoaa
open Go Go.Ab
set_option maxRecDepth 20000
set_option maxHeartbeats 2000000
noncomputable def c7f : FC := fcO 47
theorem c7g : Fn3 Try.prog 47 103 [] c7f := ⟨_, _, Try.func47, rfl, rfl, rfl, by kernel_rfl⟩

def c0r (g : b7) (ag : List Int) : Nat -> List Int -> F8 -> Option F8
 | _, [], z => some z
 | i, k :: ks, z => (ag[i]?).bind fun a => (z.set k a).bind fun z => (g.Init[i]?).bind fun c => if 0 <= c then (if c.toNat < z.ce.length then c0r g ag (i + 1) ks { z with ce := z.ce.set c.toNat a } else none) else c0r g ag (i + 1) ks z
def b1x (gs : List b7) (f : Int) (ag : List Int) (why : Int) : Option F8 := (j9 gs f).bind fun g => if 0 <= g.Cells then c0r g ag 0 g.Params ⟨f, g.Entry, why, List.replicate g.Kinds.length 0, List.replicate g.Cells.toNat 0, [], false, 0, none⟩ else none
def okG (g : b7) : Prop := g.Kinds.length < 1000000 /\ g.Cells < 1000000 /\ g.Params.length < 1000000 /\ ∀ n ∈ g.Nodes, n.Args.length < 100000000
section
variable {gs : List b7} {o : O8} {s : S8} {z : Q8} {r : List Q8} {rj pj : List AV}
theorem c4a {k : Nat} {v : Int} {R : List It} : Rp (L8 gs o s (z :: r) rj pj ++ R) (z.cl, 0, flat (avI .u64) z.ce) (z.cl, 0, flat (avI .u64) (z.ce.set k v)) (L8 gs o s ({ z with ce := z.ce.set k v } :: r) rj pj ++ R) := by
 have e : L8 gs o s ({ z with ce := z.ce.set k v } :: r) rj pj = (o.r, 0, h8 gs o s (r.length + 1)) :: (o.ro, o.rv, rC (z :: r) ++ rj) :: (x8 o s pj ++ ((z.pl, 0, flat (avI .u64) z.lo) :: (z.cl, 0, flat (avI .u64) (z.ce.set k v)) :: (z.wl, z.wv, flat a7L.av z.wa.reverse ++ z.wj) :: r.flatMap o8)) := by
  unfold L8
  rw [u5, u5]
  show _ :: (o.ro, o.rv, rC r ++ ([.int .i64 z.f, .int .i64 z.pc, .int .i64 z.why, _, .ref z.cl 0 0 (z.ce.set k v).length none, _, _, _, _] ++ rj)) :: _ = _
  rw [List.length_set]; rfl
 rw [e]
 exact Rp.there (Rp.there (Rp.there (Rp.there (Rp.there (Rp.there Rp.here)))))
theorem a7P {f why : Int} {ag : List Int} {F : F8} {av : AV} (hav : av = .sl false 1 (ag.map (avI .u64)) \/ (ag = [] /\ av = .nils)) (hv : b1x gs f ag why = some F) (hok : ∀ g ∈ gs, okG g) (hn : r.length < 10000000) (hd : 0 <= s.depth /\ s.depth < 1000000000) :
  Tri Try.prog 47 [.ptr o.r 0 0, .int .i64 f, av, .int .i64 why] (L8 gs o s r rj pj)
   (fun _ L' => ∃ z : Q8, z.toF8 = F /\ L' = L8 gs { o with rv := o.rv + 1 } { s with depth := max s.depth ((r.length : Int) + 1) } (z :: r) [] pj) := by
 unfold b1x at hv
 obtain ⟨g, hg, hv⟩ := Option.bind_eq_some_iff.1 hv
 split at hv
 case isFalse => cases hv
 rename_i hC
 obtain ⟨l1, l2, l3, l4⟩ := hok g (List.mem_of_getElem? (f6 hg).2.2)
 refine r7 mixed c7g zS [8, 31, 34] (fun R S hS => ?_)
 refine aU ?_
 refine f5 hS rfl (.head _) (v := .sl false 8 (List.map b7.av gs)) rfl ?_
 refine aU ?_
 refine g7 (esh := some 8) (f := b7.av) (ys := gs) (y := g) rfl rfl hg ?_
 refine aU ?_
 refine a1O hS rfl (fun og S hS => ?_)
 refine E_stS hS rfl (xv := g.av) rfl Rp.here rfl rfl zqV (fun S hS => ?_)
 have hgr : o.r ≠ og := fun e => (List.nodup_cons.1 hS.2).1 (by rw [<- e]; exact List.mem_map.2 ⟨_, .head _, rfl⟩)
 refine a7 ?_
 refine d6 ?_
 refine c7 ?_
 refine y0 ?_
 refine aU ?_
 refine f5 hS rfl (.tail _ (.head _)) (v := .ref o.ro o.rv 0 r.length (some 9)) rfl ?_
 refine aU ?_
 refine f5 hS rfl (.head _) (v := .int .i64 g.Entry) rfl ?_
 refine aU ?_
 refine f5 hS rfl (.head _) (v := .sl false 1 (List.map (avI .u8) g.Kinds)) rfl ?_
 refine aU ?_
 refine b2Y (f := avI .u64) (x := (0 : Int)) (n := g.Kinds.length) (n' := g.Kinds.length) hS (f7 .u64) rfl rfl rfl rfl zO (fun l S hS => ?_)
 have hlg : og ≠ l := fun e => (List.nodup_cons.1 hS.2).1 (by rw [<- e]; exact List.mem_map.2 ⟨_, .head _, rfl⟩)
 have hlr : o.r ≠ l := fun e => (List.nodup_cons.1 hS.2).1 (by rw [<- e]; exact List.mem_map.2 ⟨_, .tail _ (.head _), rfl⟩)
 refine aU ?_
 refine f5 hS rfl (.tail _ (.head _)) (v := .int .i64 g.Cells) rfl ?_
 refine aU ?_
 refine b2Y (f := avI .u64) (x := (0 : Int)) (n := g.Cells) (n' := g.Cells) hS (f7 .u64) rfl rfl rfl rfl zO (fun t S hS => ?_)
 have htl : l ≠ t := fun e => (List.nodup_cons.1 hS.2).1 (by rw [<- e]; exact List.mem_map.2 ⟨_, .head _, rfl⟩)
 have htg : og ≠ t := fun e => (List.nodup_cons.1 hS.2).1 (by rw [<- e]; exact List.mem_map.2 ⟨_, .tail _ (.head _), rfl⟩)
 have htr : o.r ≠ t := fun e => (List.nodup_cons.1 hS.2).1 (by rw [<- e]; exact List.mem_map.2 ⟨_, .tail _ (.tail _ (.head _)), rfl⟩)
 refine aU ?_
 refine c3A (o := o.ro) (ver := o.rv) (n := r.length) (m := 1) (cs := rC r) (j := rj) (ys := [.int .i64 f, .int .i64 g.Entry, .int .i64 why, .ref l 0 0 g.Kinds.length none, .ref t 0 0 g.Cells.toNat none, .nils, .bool false, .int .u64 0, .nils]) hS rfl (rdx := []) rfl (Rp.there (Rp.there (Rp.there (Rp.there Rp.here)))) (by rw [a0i]; simp [g5]) rfl zO (fun S hS => ?_)
 refine aU ?_
 refine E_stS hS rfl (xv := .ref o.ro (o.rv + 1) 0 (r.length + 1) (some 9)) rfl (Rp.there (Rp.there (Rp.there Rp.here))) rfl rfl zqV (fun S hS => ?_)
 refine a7 ?_
 refine And.intro (by simp [z5, a3A, u7, a0H, hgr, hlg, hlr, htl, htg, htr, Ne.symm hgr, Ne.symm hlg, Ne.symm hlr, Ne.symm htl, Ne.symm htg, Ne.symm htr]) ?_
 have hS1 : Ab.Sep S ((t, 0, flat (avI .u64) (List.replicate g.Cells.toNat 0)) :: (l, 0, flat (avI .u64) (List.replicate (g.Kinds.length : Int).toNat 0)) :: (og, 0, g.cells) :: (o.r, 0, h8 gs { o with rv := o.rv + 1 } s (r.length + 1)) :: (o.ro, o.rv + 1, rC r ++ ([.int .i64 f, .int .i64 g.Entry, .int .i64 why, .ref l 0 0 g.Kinds.length none, .ref t 0 0 g.Cells.toNat none, .nils, .bool false, .int .u64 0, .nils] ++ [])) :: (x8 o s pj ++ r.flatMap o8 ++ R)) := by rw [List.append_nil]; exact hS
 refine b3b (o := o.ro) (ver := o.rv + 1) (cs := rC r ++ ([.int .i64 f, .int .i64 g.Entry, .int .i64 why, .ref l 0 0 g.Kinds.length none, .ref t 0 0 g.Cells.toNat none, .nils, .bool false, .int .u64 0, .nils] ++ [])) (r.length * 9 + 5) (some 2) (Lf := fun w => (t, 0, flat (avI .u64) (List.replicate g.Cells.toNat 0)) :: (l, 0, flat (avI .u64) (List.replicate (g.Kinds.length : Int).toNat 0)) :: (og, 0, g.cells) :: (o.r, 0, h8 gs { o with rv := o.rv + 1 } s (r.length + 1)) :: (o.ro, o.rv + 1, rC r ++ ([.int .i64 f, .int .i64 g.Entry, .int .i64 why, .ref l 0 0 g.Kinds.length none, .ref t 0 0 g.Cells.toNat none, .ref w 0 0 0 (some 2), .bool false, .int .u64 0, .nils] ++ [])) :: (x8 o s pj ++ r.flatMap o8 ++ R))
  hS1 (fun w => ?_) (by rw [List.getElem?_append_right (by rw [a0i]; omega), a0i, Nat.add_sub_cancel_left]; rfl) (fun w S hS => ?_)
 ·rw [<- a0i r, c6D zS]
  exact Rp.there (Rp.there (Rp.there (Rp.there Rp.here)))
 have hS0 : Ab.Sep S ((og, 0, g.cells) :: (L8 gs { o with rv := o.rv + 1 } s (⟨⟨f, g.Entry, why, List.replicate g.Kinds.length 0, List.replicate g.Cells.toNat 0, [], false, 0, none⟩, l, t, w, 0, []⟩ :: r) [] pj ++ R)) := by
  have e : L8 gs { o with rv := o.rv + 1 } s (⟨⟨f, g.Entry, why, List.replicate g.Kinds.length 0, List.replicate g.Cells.toNat 0, [], false, 0, none⟩, l, t, w, 0, []⟩ :: r) [] pj = (o.r, 0, h8 gs { o with rv := o.rv + 1 } s (r.length + 1)) :: (o.ro, o.rv + 1, rC r ++ ([.int .i64 f, .int .i64 g.Entry, .int .i64 why, .ref l 0 0 g.Kinds.length none, .ref t 0 0 g.Cells.toNat none, .ref w 0 0 0 (some 2), .bool false, .int .u64 0, .nils] ++ [])) :: (x8 o s pj ++ ((l, 0, flat (avI .u64) (List.replicate g.Kinds.length 0)) :: (t, 0, flat (avI .u64) (List.replicate g.Cells.toNat 0)) :: (w, 0, []) :: r.flatMap o8)) := by
   unfold L8
   rw [u5]
   show _ :: (_, _, rC r ++ ([.int .i64 f, .int .i64 g.Entry, .int .i64 why, .ref l 0 0 (List.replicate g.Kinds.length (0 : Int)).length none, .ref t 0 0 (List.replicate g.Cells.toNat (0 : Int)).length none, _, _, _, _] ++ [])) :: _ = _
   rw [List.length_replicate, List.length_replicate]; rfl
  rw [e]
  refine hS.perm ?_
  have hp : ∀ (aw at_ al ag ar ao : It) (X Y : List It), List.Perm (aw :: at_ :: al :: ag :: ar :: ao :: (X ++ Y ++ R)) (ag :: ar :: ao :: (X ++ (al :: at_ :: aw :: Y) ++ R)) := fun aw at_ al ag ar ao X Y => by
   have h1 : List.Perm (aw :: at_ :: al :: ag :: ar :: ao :: (X ++ Y ++ R)) ([ag, ar, ao] ++ ([al, at_, aw] ++ (X ++ (Y ++ R)))) := by
    rw [List.append_assoc]
    exact Spl.cons (Pk.there (Pk.there (Pk.there Pk.here))) (Spl.cons (Pk.there (Pk.there (Pk.there Pk.here))) (Spl.cons (Pk.there (Pk.there (Pk.there Pk.here))) (Spl.cons (Pk.there (Pk.there Pk.here)) (Spl.cons (Pk.there Pk.here) (Spl.cons Pk.here (.refl _))))))
   refine h1.trans ?_
   simp only [List.cons_append, List.nil_append, List.append_assoc]
   refine List.Perm.cons _ (List.Perm.cons _ (List.Perm.cons _ ?_))
   have h2 : List.Perm ([al, at_, aw] ++ (X ++ (Y ++ R))) (X ++ ([al, at_, aw] ++ (Y ++ R))) := by
    rw [<- List.append_assoc, <- List.append_assoc X]
    exact List.Perm.append_right _ List.perm_append_comm
   exact h2
  exact hp _ _ _ _ _ _ (x8 o s pj) (r.flatMap o8)
 clear hS
 refine aU ?_
 refine f5 hS0 rfl (.tail _ (.head _)) (v := .ref o.ro (o.rv + 1) 0 (r.length + 1) (some 9)) rfl ?_
 refine aU ?_
 refine f5 hS0 rfl (.tail _ (.head _)) (v := .int .i64 s.depth) rfl ?_
 refine aU ?_
 refine a8w (σ := Unit) (fun _ => [(0, .ptr o.r 0 0), (2, av), (8, .ptr og 0 0)]) (fun _ => (og, 0, g.cells) :: (L8 gs { o with rv := o.rv + 1 } { s with depth := max s.depth ((r.length : Int) + 1) } (⟨⟨f, g.Entry, why, List.replicate g.Kinds.length 0, List.replicate g.Cells.toNat 0, [], false, 0, none⟩, l, t, w, 0, []⟩ :: r) [] pj ++ R)) (fun _ => True) ?_ (fun _ S _ hS => ?_)
 ·refine E_cs (t := decide (((r.length + 1 : Nat) : Int) > s.depth)) rfl (fun hq => ?_) (fun hq => ?_)
  ·refine aU ?_
   refine f5 hS0 rfl (.tail _ (.head _)) (v := .ref o.ro (o.rv + 1) 0 (r.length + 1) (some 9)) rfl ?_
   refine aU ?_
   have hq' := of_decide_eq_true hq
   refine E_stS hS0 rfl (xv := .int .i64 (max s.depth ((r.length : Int) + 1))) (by show AV.int .i64 ((r.length + 1 : Nat) : Int) = _; congr 1; omega) (Rp.there Rp.here) rfl rfl zqV (fun S hS => ?_)
   refine aU ?_
   exact x5 ⟨(), trivial, hS, wF⟩
  ·refine aU ?_
   have hq' := of_decide_eq_false hq
   have e : max s.depth ((r.length : Int) + 1) = s.depth := by omega
   refine x5 ⟨(), trivial, ?_, wF⟩
   rw [e]; exact hS0
 ·clear hS0
  refine aU ?_
  refine f5 hS rfl (.head _) (v := .sl false 1 (List.map (avI .i64) g.Params)) rfl ?_
  refine aU ?_
  generalize hs2 : ({ s with depth := max s.depth ((r.length : Int) + 1) } : S8) = s2 at hS ⊢
  generalize ho2 : ({ o with rv := o.rv + 1 } : O8) = o2 at hS ⊢
  rw [show o.r = o2.r by rw [<- ho2]]
  refine a6r g.Params.length (fun q : Q8 => [(0, .ptr o2.r 0 0), (2, av), (8, .ptr og 0 0), (59, .sl false 1 (g.Params.map (avI .i64)))]) (fun q => (og, 0, g.cells) :: (L8 gs o2 s2 (q :: r) [] pj ++ R))
   (fun i q => c0r g ag i (g.Params.drop i) q.toF8 = some F) _ hS hv wF zO zD zD (fun _ => ⟨rfl, rfl, rfl, rfl⟩) (fun i q S hi hI hS => ?_) (fun q fr' S hI hS hw => ?_)
  ·have hk : g.Params[i]? = some g.Params[i] := List.getElem?_eq_getElem hi
   rw [List.drop_eq_getElem_cons hi] at hI
   unfold c0r at hI
   obtain ⟨a, h1, hI⟩ := Option.bind_eq_some_iff.1 hI
   obtain rfl : av = .sl false 1 (ag.map (avI .u64)) := hav.resolve_right (fun h => by rw [h.1] at h1; cases h1)
   obtain ⟨z1, h2, hI⟩ := Option.bind_eq_some_iff.1 hI
   obtain ⟨c, h3, hI⟩ := Option.bind_eq_some_iff.1 hI
   refine aU ?_
   refine g7 (esh := none) (f := avI .i64) (ys := g.Params) (y := g.Params[i]) (n := (i : Int)) rfl rfl (by unfold j9; rw [if_pos zO]; exact hk) ?_
   refine aU ?_
   refine g7 (esh := none) (f := avI .u64) (ys := ag) (y := a) (n := (i : Int)) rfl rfl (by unfold j9; rw [if_pos zO]; exact h1) ?_
   refine aU ?_
   refine a5N (a6X h2 zO) hS rfl (Spl.last (PkC.there PkC.here)) (fun x S L' hL hS => ?_)
   obtain ⟨ll, rfl, rfl⟩ := hL
   refine aU ?_
   refine f5 hS rfl (List.mem_append_right _ (.head _)) (v := .sl false 1 (List.map (avI .i64) g.Init)) rfl ?_
   refine aU ?_
   refine g7 (esh := none) (f := avI .i64) (ys := g.Init) (y := c) (n := (i : Int)) rfl rfl (by unfold j9; rw [if_pos zO]; exact h3) ?_
   refine aU ?_
   split at hI
   ·rename_i hc
    split at hI
    ·rename_i hc2
     obtain ⟨w2, hw2⟩ : ∃ w, q.ce[c.toNat]? = some w := ⟨_, List.getElem?_eq_getElem hc2⟩
     refine E_cs (t := true) (by show AV.bool (decide (c >= 0)) = _; rw [decide_eq_true hc]) (fun _ => ?_) (fun h => by cases h)
     refine aU ?_
     refine f5 hS rfl (.head _) (v := .ref o2.ro o2.rv 0 (r.length + 1) (some 9)) rfl ?_
     refine aU ?_
     refine f5 hS rfl (.head _) (v := .ref o2.ro o2.rv 0 (r.length + 1) (some 9)) rfl ?_
     refine aU ?_
     refine y8 rfl rfl r.length (a2j zO) zO ?_
     refine aU ?_
     refine f5 hS rfl (.tail _ (.head _)) (v := .ref q.cl 0 0 q.ce.length none) (by rw [u5]; exact vT (a0i r) rfl) ?_
     refine aU ?_
     refine f5 hS rfl (List.mem_append_right _ (.head _)) (v := .sl false 1 (List.map (avI .i64) g.Init)) rfl ?_
     refine aU ?_
     refine g7 (esh := none) (f := avI .i64) (ys := g.Init) (y := c) (n := (i : Int)) rfl rfl (by unfold j9; rw [if_pos zO]; exact h3) ?_
     refine aU ?_
     refine g7 (esh := none) (f := avI .u64) (ys := ag) (y := a) (n := (i : Int)) rfl rfl (by unfold j9; rw [if_pos zO]; exact h1) ?_
     refine aU ?_
     refine y8 rfl rfl c.toNat zO hc2 ?_
     refine a9h (y' := a) (l := q.ce) hS (f7 .u64) rfl (xv := .int .u64 a) rfl (n := c.toNat) (fo := 0) (y := w2) (by simp [g5]) hw2 (c4a (z := { q with lo := ll })) rfl rfl (by simp [g5]) rfl (fun S hS => ?_)
     refine aU ?_
     refine aE ?_
     exact R_n { q with lo := ll, ce := q.ce.set c.toNat a } hI (hS.perm List.perm_middle) wF
    ·cases hI
   ·rename_i hc
    refine E_cs (t := false) (by show AV.bool (decide (c >= 0)) = _; rw [decide_eq_false hc]) (fun h => by cases h) (fun _ => ?_)
    refine aU ?_
    refine aE ?_
    exact R_n { q with lo := ll } hI (hS.perm List.perm_middle) wF
  ·rw [List.drop_length] at hI
   cases hI
   refine ⟨trivial, _, rfl, _, ⟨q, rfl, rfl⟩, hS.sub (List.sublist_cons_self _ _)⟩
theorem b3g {f why : Int} {ag : List Int} {F : F8} (hv : b1x gs f ag why = some F) (hok : ∀ g ∈ gs, okG g) (hn : r.length < 10000000) (hd : 0 <= s.depth /\ s.depth < 1000000000) :
  Tri Try.prog 47 [.ptr o.r 0 0, .int .i64 f, .sl false 1 (ag.map (avI .u64)), .int .i64 why] (L8 gs o s r rj pj)
   (fun _ L' => ∃ z : Q8, z.toF8 = F /\ L' = L8 gs { o with rv := o.rv + 1 } { s with depth := max s.depth ((r.length : Int) + 1) } (z :: r) [] pj) := a7P (.inl rfl) hv hok hn hd
end
end Go.Proofs.Ytnpemocpfdgaoaa

/- ref8's next, back, waiting: the walks. -/
namespace Go.Ab
section
variable {P : Program} {S0 : List Ob} {ow : List Nat} {fr : Fr} {S : List Ob} {log : List LE} {L L' : List It} {esh : Option Nat}
end
end Go.Ab
namespace Go.Proofs.Ytnpemocpfdgaoaa
open Go Go.Ab
set_option maxRecDepth 20000
set_option maxHeartbeats 2000000
noncomputable def c4b : FC := fcO 112
theorem c0s : Fn3 Try.prog 112 51 [(4, none)] c4b := ⟨_, _, Try.func112, rfl, rfl, rfl, by kernel_rfl⟩

noncomputable def c4c : FC := fcO 113
theorem c4d : Fn3 Try.prog 113 101 [] c4c := ⟨_, _, Try.func113, rfl, rfl, rfl, by kernel_rfl⟩

section
variable {gs : List b7} {o : O8} {s : S8} {z : Q8} {r : List Q8} {rj pj : List AV}
theorem a5A {z' : Q8} {k : Nat} {x : AV} {R : List It} (hk : k < 9) (hx : x.cells = [x]) (hc : c8 z' = (c8 z).set k x) (ho : o8 z' = o8 z) :
  Rp (L8 gs o s (z :: r) rj pj ++ R) (o.ro, o.rv, rC (z :: r) ++ rj) (o.ro, o.rv, splice (rC (z :: r) ++ rj) (0 + r.length * g5 (some 9) + k) x.cells) (L8 gs o s (z' :: r) rj pj ++ R) := by
 have e : L8 gs o s (z' :: r) rj pj = (o.r, 0, h8 gs o s (r.length + 1)) :: (o.ro, o.rv, rC r ++ ((c8 z).set k x ++ rj)) :: (x8 o s pj ++ (z :: r).flatMap o8) := by
  unfold L8
  rw [u5, hc, List.flatMap_cons, ho]; rfl
 have e0 : L8 gs o s (z :: r) rj pj = (o.r, 0, h8 gs o s (r.length + 1)) :: (o.ro, o.rv, rC r ++ (c8 z ++ rj)) :: (x8 o s pj ++ (z :: r).flatMap o8) := by
  unfold L8
  rw [u5]; rfl
 rw [u5, spT (a0i r) (by simpa using hk) hx, e, e0]
 exact Rp.there Rp.here
theorem a3N {k : Nat} (hk : k < 9) : 0 + r.length * g5 (some 9) + k + 1 <= (rC (z :: r) ++ rj).length := by
 rw [List.length_append, a0i]; simp [g5]; omega
theorem a7Q {w : Int} (hz : z.wa = []) (hn : r.length < 10000000) : Tri Try.prog 112 [.ptr o.r 0 0, .int .i64 w] (L8 gs o s (z :: r) rj pj) (fun x L' => x = .bool false /\ L' = L8 gs o s (z :: r) rj pj) := by
 refine r7 mixed c0s zS [7] (fun R S hS => ?_)
 refine aU ?_
 refine f5 hS rfl (.head _) (v := .ref o.ro o.rv 0 (r.length + 1) (some 9)) rfl ?_
 refine aU ?_
 refine f5 hS rfl (.head _) (v := .ref o.ro o.rv 0 (r.length + 1) (some 9)) rfl ?_
 refine aU ?_
 refine y8 rfl rfl r.length (a2j zO) zO ?_
 refine aU ?_
 refine f5 hS rfl (.tail _ (.head _)) (v := .ref z.wl z.wv 0 z.wa.length (some 2)) (by rw [u5]; exact vT (a0i r) rfl) ?_
 refine aU ?_
 refine E_cs (t := true) (by show AV.bool ((z.wa.length : Int) == 0) = _; rw [hz]; rfl) (fun _ => ?_) (fun h => by cases h)
 refine aU ?_
 refine f8 ?_
 refine aE ?_
 exact ⟨trivial, _, rfl, _, ⟨rfl, rfl⟩, hS⟩
theorem c0t {R : List It} : (z.wl, z.wv, flat a7L.av z.wa.reverse ++ z.wj) ∈ L8 gs o s (z :: r) rj pj ++ R := .tail _ (.tail _ (.tail _ (.tail _ (.tail _ (.tail _ (.tail _ (.head _)))))))
theorem a7R {w : Int} {x : a7L} {wa : List a7L} {F : F8} (hz : z.wa = x :: wa) (hv : b1x gs x.f x.args w = some F) (hok : ∀ g ∈ gs, okG g) (hn : r.length < 9999999) (hd : 0 <= s.depth /\ s.depth < 1000000000) (hw : wa.length < 100000000) :
  Tri Try.prog 112 [.ptr o.r 0 0, .int .i64 w] (L8 gs o s (z :: r) rj pj) (fun v L' => v = .bool true /\ ∃ z1 : Q8, z1.toF8 = F /\ L' = L8 gs { o with rv := o.rv + 1 } { s with depth := max s.depth ((r.length : Int) + 2) } (z1 :: { z with wa := wa, wj := x.cells ++ z.wj } :: r) [] pj) := by
 have hx : z.wa.reverse[wa.length]? = some x := by rw [hz, List.reverse_cons, List.getElem?_append_right zS]; simp
 have hlen : z.wa.length = wa.length + 1 := by rw [hz]; rfl
 refine r7 mixed c0s zS [7] (fun R S hS => ?_)
 refine aU ?_
 refine f5 hS rfl (.head _) (v := .ref o.ro o.rv 0 (r.length + 1) (some 9)) rfl ?_
 refine aU ?_
 refine f5 hS rfl (.head _) (v := .ref o.ro o.rv 0 (r.length + 1) (some 9)) rfl ?_
 refine aU ?_
 refine y8 rfl rfl r.length (a2j zO) zO ?_
 refine aU ?_
 refine f5 hS rfl (.tail _ (.head _)) (v := .ref z.wl z.wv 0 z.wa.length (some 2)) (by rw [u5]; exact vT (a0i r) rfl) ?_
 refine aU ?_
 refine E_cs (t := false) (by show AV.bool ((z.wa.length : Int) == 0) = _; rw [show ((z.wa.length : Int) == 0) = false by simp; rw [hz]; simp]) (fun h => by cases h) (fun _ => ?_)
 refine aU ?_
 refine f5 hS rfl (.tail _ (.head _)) (v := .ref z.wl z.wv 0 z.wa.length (some 2)) (by rw [u5]; exact vT (a0i r) rfl) ?_
 refine aU ?_
 refine y8 rfl rfl wa.length (by show IntKind.i64.wrap ((z.wa.length : Int) - 1) = _; rw [hlen]; exact a2j zO) zO ?_
 refine b3a hS a7L.enc rfl c0t (n := wa.length) (fo := 0) (y := x) zS hx (v := x.av) rfl ?_
 refine a1O hS rfl (fun od S hS => ?_)
 refine E_stS hS rfl (xv := x.av) rfl Rp.here rfl rfl zqV (fun S hS => ?_)
 refine aU ?_
 refine f5 hS rfl (.tail _ (.tail _ (.head _))) (v := .ref z.wl z.wv 0 z.wa.length (some 2)) (by rw [u5]; exact vT (a0i r) rfl) ?_
 refine aU ?_
 refine a6n (a := 0) (b := wa.length) rfl rfl (by show hiN z.wa.length (some (.int .i64 (IntKind.i64.wrap ((z.wa.length : Int) - 1)))) = _; rw [hlen, a2j zO, a0M zO]; simp) ⟨by omega, by omega, .inl rfl⟩ ?_
 refine aU ?_
 have e2 : flat a7L.av z.wa.reverse ++ z.wj = flat a7L.av wa.reverse ++ (x.cells ++ z.wj) := by rw [hz, List.reverse_cons, x9, List.append_assoc]; rfl
 refine E_stS hS rfl (xv := .ref z.wl z.wv 0 wa.length (some 2)) (by show AV.ref z.wl z.wv (0 + 0 * g5 (some 2)) (wa.length - 0) (some 2) = _; simp) (Rp.there (a5A (z' := { z with wa := wa, wj := x.cells ++ z.wj }) zO rfl rfl (by show [_, _, (z.wl, z.wv, flat a7L.av wa.reverse ++ (x.cells ++ z.wj))] = _; rw [<- e2]))) rfl rfl (a3N zO) (fun S hS => ?_)
 refine aU ?_
 refine f5 hS rfl (.head _) (v := .int .i64 x.f) rfl ?_
 refine aU ?_
 refine f5 hS rfl (.head _) (v := .sl false 1 (x.args.map (avI .u64))) rfl ?_
 refine aU ?_
 refine a5N (b3g (r := { z with wa := wa, wj := x.cells ++ z.wj } :: r) hv hok zE hd) hS rfl (Spl.last (PkC.there PkC.here)) (fun y S L' hL hS => ?_)
 obtain ⟨z1, h1, rfl⟩ := hL
 refine aU ?_
 refine f8 ?_
 refine aE ?_
 refine ⟨trivial, _, rfl, _, ⟨rfl, z1, h1, rfl⟩, ?_⟩
 have e1 : max s.depth (((({ z with wa := wa, wj := x.cells ++ z.wj } :: r : List Q8).length : Nat) : Int) + 1) = max s.depth ((r.length : Int) + 2) := by simp; omega
 rw [e1] at hS
 exact hS.sub (List.Sublist.append_left (List.sublist_cons_self _ _) _)
def F8.back (gs : List b7) (z : F8) (v : Int) : Option F8 := (j9 gs z.f).bind fun g => (j9 g.Nodes z.pc).bind fun n => F8.set { z with pc := n.Next } n.D v
theorem b3h {v : Int} {F : F8} (hv : z.toF8.back gs v = some F) (hn : r.length < 10000000) :
  Tri Try.prog 113 [.ptr o.r 0 0, .int .u64 v] (L8 gs o s (z :: r) rj pj) (fun _ L' => ∃ z' : Q8, z'.toF8 = F /\ L' = L8 gs o s (z' :: r) rj pj) := by
 unfold F8.back at hv
 obtain ⟨g, hg, hv⟩ := Option.bind_eq_some_iff.1 hv
 obtain ⟨n, hnd, hv⟩ := Option.bind_eq_some_iff.1 hv
 refine r7 mixed c4d zS [5] (fun R S hS => ?_)
 refine c7 ?_
 refine a8 ?_
 refine aS ?_
 refine f5 hS rfl (.head _) (v := .ref o.ro o.rv 0 (r.length + 1) (some 9)) rfl ?_
 refine aS ?_
 refine f5 hS rfl (.head _) (v := .ref o.ro o.rv 0 (r.length + 1) (some 9)) rfl ?_
 refine aS ?_
 refine y8 rfl rfl r.length (a2j zO) zO ?_
 refine aS ?_
 refine a7 ?_
 refine d6 ?_
 refine c7 ?_
 refine y0 ?_
 refine aU ?_
 refine f5 hS rfl (.head _) (v := .sl false 8 (List.map b7.av gs)) rfl ?_
 refine aU ?_
 refine f5 hS rfl (.tail _ (.head _)) (v := .int .i64 z.f) (by rw [u5]; exact vT (a0i r) rfl) ?_
 refine aU ?_
 refine g7 (esh := some 8) (f := b7.av) (ys := gs) (y := g) rfl rfl hg ?_
 refine aU ?_
 refine f5 hS rfl (.tail _ (.head _)) (v := .int .i64 z.pc) (by rw [u5]; exact vT (a0i r) rfl) ?_
 refine aU ?_
 refine g7 (esh := some 12) (f := g6.av) (ys := g.Nodes) (y := n) rfl rfl hnd ?_
 refine aU ?_
 refine a1O hS rfl (fun oi S hS => ?_)
 have h1 : o.r ≠ oi := fun e => (List.nodup_cons.1 hS.2).1 (by rw [<- e]; exact List.mem_map.2 ⟨_, .head _, rfl⟩)
 have h2 : o.ro ≠ oi := fun e => (List.nodup_cons.1 hS.2).1 (by rw [<- e]; exact List.mem_map.2 ⟨_, .tail _ (.head _), rfl⟩)
 refine E_stS hS rfl (xv := n.av) rfl Rp.here rfl rfl zqV (fun S hS => ?_)
 refine a7 ?_
 refine And.intro (by simp [z5, a3A, u7, a0H, h1, h2, Ne.symm h1, Ne.symm h2]) ?_
 refine aU ?_
 refine f5 hS rfl (.head _) (v := .int .i64 n.Next) rfl ?_
 refine aU ?_
 refine E_stS hS rfl (xv := .int .i64 n.Next) rfl (Rp.there (a5A (z' := { z with pc := n.Next }) zO rfl rfl rfl)) rfl rfl (a3N zO) (fun S hS => ?_)
 refine aU ?_
 refine f5 hS rfl (.tail _ (.head _)) (v := .bool false) rfl ?_
 refine aU ?_
 refine E_cs (t := true) rfl (fun _ => ?_) (fun h => by cases h)
 refine aU ?_
 refine f5 hS rfl (.head _) (v := .int .i64 n.D) rfl ?_
 refine aU ?_
 refine a5N (a6X (z := { z with pc := n.Next }) hv zO) hS rfl (Spl.last (PkC.there PkC.here)) (fun x S L' hL hS => ?_)
 obtain ⟨l, rfl, rfl⟩ := hL
 refine aU ?_
 refine f8 ?_
 refine aE ?_
 exact ⟨trivial, _, rfl, _, ⟨{ z with pc := n.Next, lo := l }, rfl, rfl⟩, hS.sub (List.Sublist.append_left (List.sublist_cons_self _ _) _)⟩
def waS : List F8 -> Nat
 | [] => 0
 | z :: r => z.wa.length + waS r
end
end Go.Proofs.Ytnpemocpfdgaoaa

/- ref8's unwind, begin: the walks. -/
namespace Go.Proofs.Ytnpemocpfdgaoaa
open Go Go.Ab
set_option maxRecDepth 20000
set_option maxHeartbeats 2000000
noncomputable def c4e : FC := fcO 111
theorem c4f : Fn3 Try.prog 111 86 [] c4e := ⟨_, _, Try.func111, rfl, rfl, rfl, by kernel_rfl⟩

def c2T (w : Int) (ps : List a2A) : Option (List a2A) := if w = 2 then (match ps with | a :: _ :: l => some (a :: l) | _ => none) else some ps
theorem a7S {w : Int} {ps q : List a2A} (h : c2T w ps = some q) : (w = 2 /\ ∃ a b l, ps = a :: b :: l /\ q = a :: l) \/ (w ≠ 2 /\ q = ps) := by
 unfold c2T at h
 split at h
 ·rename_i hw
  split at h
  ·cases h; exact .inl ⟨hw, _, _, _, rfl, rfl⟩
  ·cases h
 ·rename_i hw
  cases h; exact .inr ⟨hw, rfl⟩
def c5M : List a2A -> Option Int
 | a :: _ => some a.v
 | [] => none
def a9W (gs : List b7) : List F8 -> List a2A -> Option (Option Int × List F8 × List a2A)
 | [], _ => none
 | z :: r, ps => match z.wa with
   | x :: wa => (b1x gs x.f x.args 2).bind fun F => some (none, F :: { z with wa := wa } :: r, ps)
   | [] => (c2T z.why ps).bind fun ps' => match r with
     | [] => (c5M ps').map fun v => (some v, [], ps')
     | y :: t => a9W gs (y :: t) ps'
theorem b3i {gs : List b7} {z : F8} {r : List F8} {ps : List a2A} {x} (hz : z.wa = []) (h : a9W gs (z :: r) ps = some x) : ∃ q, c2T z.why ps = some q /\ (r = [] -> ∃ v, c5M q = some v /\ x = (some v, [], q)) /\ (r ≠ [] -> a9W gs r q = some x) := by
 unfold a9W at h
 rw [hz] at h
 obtain ⟨q, h1, h2⟩ := Option.bind_eq_some_iff.1 h
 refine ⟨q, h1, fun e => ?_, fun e => ?_⟩
 ·subst e
  obtain ⟨v, h3, h4⟩ := Option.map_eq_some_iff.1 h2
  exact ⟨v, h3, h4.symm⟩
 ·cases r with
  | nil => exact absurd rfl e
  | cons y t => exact h2
theorem b1y {gs : List b7} {z : F8} {r : List F8} {ps : List a2A} {x y df} (hz : z.wa = y :: df) (h : a9W gs (z :: r) ps = some x) : ∃ F, b1x gs y.f y.args 2 = some F /\ x = (none, F :: { z with wa := df } :: r, ps) := by
 unfold a9W at h
 rw [hz] at h
 obtain ⟨f, h1, h2⟩ := Option.bind_eq_some_iff.1 h
 cases h2
 exact ⟨f, h1, rfl⟩
section
variable {gs : List b7} {o : O8} {s : S8} {z : Q8} {r : List Q8} {rj pj : List AV}
theorem c0u {R : List It} {S : List Ob} (h : Ab.Sep S ((o.r, 0, h8 gs o s r.length) :: (o.ro, o.rv, rC (z :: r) ++ rj) :: (x8 o s pj ++ (z :: r).flatMap o8 ++ R))) : Ab.Sep S (L8 gs o s r (c8 z ++ rj) pj ++ R) := by
 rw [u5] at h
 refine h.sub ?_
 refine .cons_cons _ (.cons_cons _ ?_)
 exact List.Sublist.append_right (List.Sublist.append_left (by rw [List.flatMap_cons]; exact List.sublist_append_right _ _) _) _
theorem b4d (z : Q8) : (AV.agg (c8 z)).cells.all AV.one = true := by
 have h : (kpA z.kp).one = true := by cases z.kp <;> rfl
 show (c8 z).all AV.one = true
 simp only [c8, List.all_cons, List.all_nil, h]
 rfl
theorem a9O {rows : List Q8} {ps' : List a2A} {en : Option Int} {A' : List F8} (hv : a9W gs (ab8 rows) s.pans = some (en, A', ps')) (hok : ∀ g ∈ gs, okG g) (hn : rows.length < 9999999) (hp : s.pans.length < 10000000) (hd : 0 <= s.depth /\ s.depth < 1000000000) (hw : ∀ z ∈ rows, z.wa.length < 100000000) :
  Tri Try.prog 111 [.ptr o.r 0 0] (L8 gs o s rows rj pj)
   (fun _ L' => ∃ rv lv rows' rj' pj', ab8 rows' = A' /\ L' = L8 gs { o with rv := rv, lv := lv } { s with pans := ps', ek := if en.isSome then 2 else s.ek, ev := en.getD s.ev, depth := if en.isSome then s.depth else max s.depth (A'.length : Int) } rows' rj' pj') := by
 refine r7 mixed c4f zS [2, 4] (fun R S hS => ?_)
 refine m5 (a4u (σ := List Q8 × List a2A × List AV × List AV × Nat) (fun _ => [(0, .ptr o.r 0 0)]) (fun q => L8 gs { o with lv := q.2.2.2.2 } { s with pans := q.2.1 } q.1 q.2.2.1 q.2.2.2.1 ++ R)
  (fun q => a9W gs (ab8 q.1) q.2.1 = some (en, A', ps') /\ q.1.length < 9999999 /\ q.2.1.length < 10000000 /\ ∀ z ∈ q.1, z.wa.length < 100000000) (fun q => q.1.length) (rows, s.pans, rj, pj, o.lv) hS ⟨hv, hn, hp, hw⟩
  wF (fun q S hI hS => ?_))
 obtain ⟨rows1, ps1, rj1, pj1, lv⟩ := q
 obtain ⟨i1, i2, i3, i4⟩ := hI
 dsimp only at i1 i2 i3 i4 hS
 cases rows1 with
 | nil => cases i1
 | cons z r =>
 have hrl : r.length < 9999998 := by simp at i2; omega
 refine aU ?_
 cases hz : z.wa with
 | nil =>
   refine a5N (a7Q (o := { o with lv := lv }) (s := { s with pans := ps1 }) (r := r) (w := 2) hz zO) hS rfl (.refl _) (fun r0 S L' hL hS => ?_)
   obtain ⟨rfl, rfl⟩ := hL
   refine aU ?_
   refine E_cs (t := true) rfl (fun _ => ?_) (fun h => by cases h)
   refine aU ?_
   refine m5 ?_
   refine c7 ?_
   refine y0 ?_
   refine aU ?_
   refine f5 hS rfl (.head _) (v := .ref o.ro o.rv 0 (r.length + 1) (some 9)) rfl ?_
   refine aU ?_
   refine f5 hS rfl (.head _) (v := .ref o.ro o.rv 0 (r.length + 1) (some 9)) rfl ?_
   refine aU ?_
   refine y8 rfl rfl r.length (a2j zO) zO ?_
   refine f5 hS rfl (.tail _ (.head _)) (v := .agg (c8 z)) (by rw [u5]; exact vT0 (a0i r) rfl) ?_
   refine a1O hS rfl (fun oi S hS => ?_)
   have h1 : o.r ≠ oi := fun e => (List.nodup_cons.1 hS.2).1 (by rw [<- e]; exact List.mem_map.2 ⟨_, .head _, rfl⟩)
   have h2 : o.ro ≠ oi := fun e => (List.nodup_cons.1 hS.2).1 (by rw [<- e]; exact List.mem_map.2 ⟨_, .tail _ (.head _), rfl⟩)
   refine E_stS hS rfl (xv := .agg (c8 z)) rfl Rp.here rfl (b4d z) zqV (fun S hS => ?_)
   refine a7 ?_
   refine And.intro (by simp [z5, a3A, u7, a0H, h1, h2, Ne.symm h1, Ne.symm h2]) ?_
   refine aU ?_
   refine f5 hS rfl (.tail _ (.head _)) (v := .ref o.ro o.rv 0 (r.length + 1) (some 9)) rfl ?_
   refine aU ?_
   refine f5 hS rfl (.tail _ (.head _)) (v := .ref o.ro o.rv 0 (r.length + 1) (some 9)) rfl ?_
   refine aU ?_
   refine a6n (a := 0) (b := r.length) rfl rfl (by show hiN (r.length + 1) (some (.int .i64 (IntKind.i64.wrap (((r.length + 1 : Nat) : Int) - 1)))) = _; rw [a2j zO, a0M zO]; simp) ⟨by omega, by omega, .inl rfl⟩ ?_
   refine aU ?_
   refine E_stS hS rfl (xv := .ref o.ro o.rv 0 r.length (some 9)) (by show AV.ref o.ro o.rv (0 + 0 * g5 (some 9)) (r.length - 0) (some 9) = _; simp) (Rp.there Rp.here) rfl rfl zqV (fun S hS => ?_)
   have hS2 : Ab.Sep S (L8 gs { o with lv := lv } { s with pans := ps1 } r (c8 z ++ rj1) pj1 ++ ((oi, 0, c8 z) :: R)) := c0u (R := (oi, 0, c8 z) :: R) (hS.perm (by
    refine (List.perm_middle (l₁ := (o.r, 0, h8 gs { o with lv := lv } { s with pans := ps1 } r.length) :: (o.ro, o.rv, rC (z :: r) ++ rj1) :: (x8 { o with lv := lv } { s with pans := ps1 } pj1 ++ (z :: r).flatMap o8)) (l₂ := R)).symm))
   clear hS
   refine aU ?_
   refine f5 hS2 rfl (.head _) (v := .ref o.li lv 0 ps1.length (some 2)) rfl ?_
   refine aU ?_
   refine f5 hS2 rfl (List.mem_append_right _ (.head _)) (v := .int .i64 z.why) rfl ?_
   refine aU ?_
   obtain ⟨ps2, h3, h4, h5⟩ := b3i (z := z.toF8) (r := ab8 r) hz i1
   refine a8w (σ := List AV × Nat) (fun _ => [(0, .ptr o.r 0 0)])
    (fun q => L8 gs { o with lv := q.2 } { s with pans := ps2 } r (c8 z ++ rj1) q.1 ++ R)
    (fun _ => ps2.length <= ps1.length) ?_ (fun q S hI hS => ?_)
   ·refine E_cs (t := z.why == 2) rfl (fun hw => ?_) (fun hw => ?_)
    ·have hw' : z.why = 2 := by simpa using hw
     obtain ⟨_, a, b, l, rfl, rfl⟩ : z.why = 2 /\ ∃ a b l, ps1 = a :: b :: l /\ ps2 = a :: l := (a7S h3).resolve_right (fun h => h.1 hw')
     simp only [List.length_cons] at i3
     have hxa : (a :: b :: l).reverse[l.length + 1]? = some a := by simp [List.getElem?_append]
     refine aU ?_
     refine f5 hS2 rfl (.head _) (v := .ref o.li lv 0 (l.length + 2) (some 2)) rfl ?_
     refine aU ?_
     refine y8 rfl rfl (l.length + 1) (by show IntKind.i64.wrap (((l.length + 1 + 1 : Nat) : Int) - 1) = _; exact a2j zO) zO ?_
     refine b3a hS2 a2A.enc rfl (.tail _ (.tail _ (.head _))) (n := l.length + 1) (fo := 0) (y := a) zS hxa (v := a.av) rfl ?_
     refine a1O hS2 rfl (fun o4 S hS => ?_)
     refine E_stS hS rfl (xv := a.av) rfl Rp.here rfl rfl zqV (fun S hS => ?_)
     refine a7 ?_
     refine d6 ?_
     refine y0 ?_
     refine aU ?_
     refine f5 hS rfl (.tail _ (.head _)) (v := .ref o.li lv 0 (l.length + 2) (some 2)) rfl ?_
     refine aU ?_
     refine a6n (a := 0) (b := l.length) rfl rfl (by show hiN (l.length + 2) (some (.int .i64 (IntKind.i64.wrap (((l.length + 1 + 1 : Nat) : Int) - 2)))) = _; rw [t7 zO, a0M zO]; simp; omega) ⟨by omega, by omega, .inl rfl⟩ ?_
     refine aU ?_
     refine f5 hS rfl (.head _) (v := a.av) rfl ?_
     refine aU ?_
     have e4 : flat a2A.av (a :: b :: l).reverse ++ pj1 = flat a2A.av l.reverse ++ (b.cells ++ (a.cells ++ pj1)) := by
      rw [List.reverse_cons, List.reverse_cons, x9, x9, List.append_assoc, List.append_assoc]; rfl
     refine a6U (o := o.li) (ver := lv) (f := a2A.av) (l := l.reverse) (m := [a]) (j := b.cells ++ (a.cells ++ pj1)) hS a2A.enc (by show AV.ref o.li lv (0 + 0 * g5 (some 2)) (l.length - 0) _ = _; rw [List.length_reverse]; simp) (u2 (f := a2A.av) (esh := some 2) [a]) (by rw [<- e4]; exact Rp.there (Rp.there (Rp.there Rp.here))) ⟨by simp; omega, by simp; omega⟩ (fun S hS => ?_)
     refine aU ?_
     refine E_stS hS rfl (xv := .ref o.li (lv + 1) 0 (l.length + 1) (some 2)) (by show AV.ref o.li (lv + 1) 0 (l.reverse ++ [a]).length _ = _; simp) (Rp.there Rp.here) rfl rfl zqV (fun S hS => ?_)
     refine a7 ?_
     refine And.intro (by simp [z5, a3A, u7, a0H]) ?_
     refine ⟨([], lv + 1), by simp, ?_, wF⟩
     have e5 : flat a2A.av (l.reverse ++ [a]) = flat a2A.av (a :: l).reverse ++ [] := by simp
     have hS5 : Ab.Sep S ((o4, 0, a.cells) :: (o.r, 0, h8 gs { o with lv := lv + 1 } { s with pans := a :: l } r.length) :: (o.ro, o.rv, rC r ++ (c8 z ++ rj1)) :: (o.li, lv + 1, flat a2A.av (l.reverse ++ [a])) :: (o.te, o.tv, flat a1Z.av s.evs) :: (o.rg, 0, flat (avI .u64) (List.replicate 16 0)) :: (r.flatMap o8 ++ ((oi, 0, c8 z) :: R))) := hS
     rw [e5] at hS5
     have hS6 := hS5.sub (List.sublist_cons_self _ _)
     exact hS6.sub (.cons_cons _ (.cons_cons _ (.cons_cons _ (.cons_cons _ (.cons_cons _ (List.Sublist.append_left (List.sublist_cons_self _ _) _))))))
    ·have hw' : ¬ z.why = 2 := by simpa using hw
     obtain ⟨_, rfl⟩ := (a7S h3).resolve_left (fun h => hw' h.1)
     refine aU ?_
     exact x5 ⟨(pj1, lv), Nat.le_refl _, hS2.sub (List.Sublist.append_left (List.sublist_cons_self _ _) _), wF⟩
   ·obtain ⟨pj2, lv2⟩ := q
    dsimp only at hS
    refine aU ?_
    refine f5 hS rfl (.head _) (v := .ref o.ro o.rv 0 r.length (some 9)) rfl ?_
    refine aU ?_
    refine E_cs (t := ((r.length : Int) == 0)) rfl (fun hr => ?_) (fun hr => ?_)
    ·have hr0 : r = [] := by
      have : (r.length : Int) = 0 := by simpa using hr
      exact List.length_eq_zero_iff.1 zO
     subst hr0
     obtain ⟨v, h6, h7⟩ := h4 rfl
     obtain ⟨a, l, rfl⟩ : ∃ a l, ps2 = a :: l := by
      cases ps2 with
      | nil => cases h6
      | cons a l => exact ⟨a, l, rfl⟩
     cases h6
     cases h7
     have hla : (a :: l).reverse[l.length]? = some a := by simp
     simp only [List.length_cons] at hI
     refine aU ?_
     refine f5 hS rfl (.head _) (v := .ref o.li lv2 0 (l.length + 1) (some 2)) rfl ?_
     refine aU ?_
     refine f5 hS rfl (.head _) (v := .ref o.li lv2 0 (l.length + 1) (some 2)) rfl ?_
     refine aU ?_
     refine y8 rfl rfl l.length (a2j zO) zO ?_
     refine aU ?_
     refine b3a hS a2A.enc rfl (.tail _ (.tail _ (.head _))) (n := l.length) (fo := 0) (y := a) zS hla (v := .int .u64 a.v) rfl ?_
     refine aU ?_
     refine E_stS hS rfl (xv := .agg [.int .i64 2, .int .u64 a.v]) rfl Rp.here rfl rfl zqV (fun S hS => ?_)
     refine aU ?_
     refine f8 ?_
     refine aE ?_
     exact ⟨trivial, _, rfl, _, ⟨o.rv, lv2, [], _, pj2, rfl, rfl⟩, hS⟩
    ·have hr0 : r ≠ [] := fun e => by subst e; cases hr
     refine aU ?_
     refine aE ?_
     have hr1 : ab8 r ≠ [] := fun e => hr0 (List.map_eq_nil_iff.1 e)
     exact x5 ⟨(r, ps2, c8 z ++ rj1, pj2, lv2), ⟨h5 hr1, by show r.length < 9999999; omega, by show ps2.length < 10000000; omega, fun y hy => i4 y (.tail _ hy)⟩, by show r.length < (z :: r).length; simp, hS, wF⟩
 | cons x wa =>
   obtain ⟨F, h1, h2⟩ := b1y (z := z.toF8) (r := ab8 r) hz i1
   cases h2
   have hwz := i4 z (.head _)
   rw [hz] at hwz
   refine a5N (a7R (o := { o with lv := lv }) (s := { s with pans := ps' }) (r := r) (w := 2) hz h1 hok zO hd (by simp at hwz; omega)) hS rfl (.refl _) (fun r0 S L' hL hS => ?_)
   obtain ⟨rfl, z1, hz1, rfl⟩ := hL
   refine aU ?_
   refine E_cs (t := false) rfl (fun h => by cases h) (fun _ => ?_)
   refine a2E ?_
   refine aE ?_
   refine ⟨trivial, _, rfl, _, ⟨o.rv + 1, lv, z1 :: { z with wa := wa, wj := x.cells ++ z.wj } :: r, [], pj1, by rw [<- hz1]; rfl, rfl⟩, ?_⟩
   have e1 : max s.depth ((r.length : Int) + 2) = max s.depth (((F :: { z.toF8 with wa := wa } :: ab8 r : List F8).length : Nat) : Int) := by simp [ab8]; omega
   rw [e1] at hS
   exact hS
end
end Go.Proofs.Ytnpemocpfdgaoaa

