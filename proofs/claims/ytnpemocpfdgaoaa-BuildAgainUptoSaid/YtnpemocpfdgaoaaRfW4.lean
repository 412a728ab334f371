/- build: a node, plainly. -/
import Derived.Test.YtnpemocpfdgaoaaBdW5
set_option linter.unusedVariables false
set_option linter.unusedSimpArgs false
namespace Go.Proofs.Ytnpemocpfdgaoaa
open Go Go.Ab
def ndI (p : Program) (f : Func) (cell s : List Int) (i : Instr) : Option b8 :=
 if i.Op = 1 then some ⟨1, 0, i9 f s.length 0, 0, 0, 0, 0, 0, i.Imm, [], 0, 0⟩
 else if i.Op = 2 then (j9 cell i.Arg).bind fun c => (j9 f.Locals i.Arg).map fun k => t5 c i.Arg (i9 f s.length k) false
 else if i.Op = 3 then (j9 cell i.Arg).bind fun c => (a1C f s 1).map fun t => t5 c i.Arg t true
 else if i.Op = 4 then (j9 cell i.Arg).map fun c => ⟨6, 0, i9 f s.length 1, 0, 0, 0, 0, c, 0, [], 0, 0⟩
 else if i.Op = 5 then (a1C f s 1).map fun t => ⟨7, 0, i9 f ((s.length : Int) - 1) 0, 0, t, 0, 0, 0, 0, [], 0, 0⟩
 else if i.Op = 6 then (a1C f s 1).bind fun t1 => (a1C f s 2).map fun t2 => ⟨8, 0, 0, 0, t2, t1, 0, 0, 0, [], 0, 0⟩
 else if i.Op = 21 \/ i.Op = 31 then some ⟨10, 0, 0, 0, 0, 0, 0, 0, 0, [], 0, 0⟩
 else if i.Op = 22 then (a1C f s 1).map fun t => ⟨9, 0, 0, 0, t, 0, 0, 0, 0, [], 0, i.Arg⟩
 else if i.Op = 23 then (j9 p.Funcs i.Arg).bind fun g => if 0 <= g.Params /\ g.Params <= s.length then
  some ⟨11, 0, if g.Result = true then i9 f ((s.length : Int) - g.Params) 0 else -1, 0, 0, 0, i.Arg, 0, 0, m9 f s ((s.length : Int) - g.Params).toNat (s.length - ((s.length : Int) - g.Params).toNat), 0, 0⟩ else none
 else if i.Op = 25 then (j9 p.Funcs i.Arg).bind fun g => if 0 <= g.Params /\ g.Params <= s.length then
  some ⟨13, 0, 0, 0, 0, 0, i.Arg, 0, 0, m9 f s ((s.length : Int) - g.Params).toNat (s.length - ((s.length : Int) - g.Params).toNat), 0, 0⟩ else none
 else if i.Op = 24 then (if f.Result = true then (a1C f s 1).map fun t => ⟨12, 0, 0, 0, t, 0, 0, 0, 0, [], 0, 0⟩ else some ⟨12, 0, 0, 0, -1, 0, 0, 0, 0, [], 0, 0⟩)
 else if i.Op = 26 then (a1C f s 1).map fun t => ⟨14, 0, 0, 0, t, 0, 0, 0, 0, [], 0, 0⟩
 else if i.Op = 27 then some ⟨15, 0, i9 f s.length 0, i9 f ((s.length : Int) + 1) 0, 0, 0, 0, 0, 0, [], 0, 0⟩
 else if i.Op = 28 then some ⟨16, 0, i9 f s.length 0, 0, 0, 0, 0, 0, 0, [], 0, 0⟩
 else if i.Op = 29 then (a1C f s 1).map fun t => ⟨17, 0, 0, 0, t, 0, 0, 0, 0, [], 0, 0⟩
 else if i.Op = 30 then (a1C f s 1).map fun t => ⟨18, 0, 0, 0, t, 0, 0, 0, 0, [], 0, 0⟩
 else if i.Op = 32 then (j9 s ((s.length : Int) - 1)).bind fun k => (a1C f s 1).map fun t => ⟨2, 0, i9 f s.length k, 0, t, 0, 0, 0, 0, [], 0, 0⟩
 else (a1C f s 1).bind fun t1 => (a1C f s 2).map fun t2 => ⟨3, i.Op, t2, 0, t2, t1, 0, 0, 0, [], 0, 0⟩
section
variable {p : Program} {f : Func} {b cl : Nat} {cs : List AV} {cell s : List Int} {at_ : Int} {i : Instr}
theorem b2w {n : b8} (B : NB p f cl cs cell s at_) (hlk : ∀ k ∈ f.Locals, 0 <= k /\ k < 256) (hi : j9 f.Code at_ = some i) (hv : ndI p f cell s i = some n) :
  Tri Try.prog 54 [.ptr b 0 0, .int .i64 at_, .sl false 1 (s.map (avI .u8))] [(b, 0, cs), (cl, 0, flat (avI .i64) cell)] (fun x L' => x = b8.av { n with Next := o9 f at_ i } /\ L' = [(b, 0, cs), (cl, 0, flat (avI .i64) cell)]) := by
 unfold ndI at hv
 by_cases h : i.Op = 1
 ·rw [if_pos h] at hv; cases hv; exact nd1 B hi h
 rw [if_neg h] at hv; have n1 := h; clear h
 by_cases h : i.Op = 2
 ·rw [if_pos h] at hv
  obtain ⟨c, q1, hv⟩ := Option.bind_eq_some_iff.1 hv
  obtain ⟨k, q2, rfl⟩ := Option.map_eq_some_iff.1 hv
  exact nd2 B hi h q1 q2 (hlk k (a4U q2))
 rw [if_neg h] at hv; have n2 := h; clear h
 by_cases h : i.Op = 3
 ·rw [if_pos h] at hv
  obtain ⟨c, q1, hv⟩ := Option.bind_eq_some_iff.1 hv
  obtain ⟨t, q2, rfl⟩ := Option.map_eq_some_iff.1 hv
  exact nd3 B hi h q1 q2
 rw [if_neg h] at hv; have n3 := h; clear h
 by_cases h : i.Op = 4
 ·rw [if_pos h] at hv
  obtain ⟨c, q1, rfl⟩ := Option.map_eq_some_iff.1 hv
  exact nd4 B hi h q1
 rw [if_neg h] at hv; have n4 := h; clear h
 by_cases h : i.Op = 5
 ·rw [if_pos h] at hv
  obtain ⟨t, q1, rfl⟩ := Option.map_eq_some_iff.1 hv
  exact nd5 B hi h q1
 rw [if_neg h] at hv; have n5 := h; clear h
 by_cases h : i.Op = 6
 ·rw [if_pos h] at hv
  obtain ⟨t1, q1, hv⟩ := Option.bind_eq_some_iff.1 hv
  obtain ⟨t2, q2, rfl⟩ := Option.map_eq_some_iff.1 hv
  exact nd6 B hi h q1 q2
 rw [if_neg h] at hv; have n6 := h; clear h
 by_cases h : i.Op = 21 \/ i.Op = 31
 ·rw [if_pos h] at hv; cases hv
  rcases h with h | h
  ·exact c7C B hi h
  ·exact c7D B hi h
 rw [if_neg h] at hv; have n7 := h; clear h
 by_cases h : i.Op = 22
 ·rw [if_pos h] at hv
  obtain ⟨t, q1, rfl⟩ := Option.map_eq_some_iff.1 hv
  exact c7v B hi h q1
 rw [if_neg h] at hv; have n22 := h; clear h
 by_cases h : i.Op = 23
 ·rw [if_pos h] at hv
  obtain ⟨g, q1, hv⟩ := Option.bind_eq_some_iff.1 hv
  by_cases q2 : 0 <= g.Params /\ g.Params <= s.length
  ·rw [if_pos q2] at hv; cases hv
   by_cases hR : g.Result = true
   ·rw [if_pos hR]; exact c2W B hi h q1 zO zO hR
   ·rw [if_neg hR]; exact c2V B hi h q1 zO zO (by simpa using hR)
  ·rw [if_neg q2] at hv; cases hv
 rw [if_neg h] at hv; have n23 := h; clear h
 by_cases h : i.Op = 25
 ·rw [if_pos h] at hv
  obtain ⟨g, q1, hv⟩ := Option.bind_eq_some_iff.1 hv
  by_cases q2 : 0 <= g.Params /\ g.Params <= s.length
  ·rw [if_pos q2] at hv; cases hv
   exact c7E B hi h q1 zO zO
  ·rw [if_neg q2] at hv; cases hv
 rw [if_neg h] at hv; have n25 := h; clear h
 by_cases h : i.Op = 24
 ·rw [if_pos h] at hv
  by_cases hR : f.Result = true
  ·rw [if_pos hR] at hv
   obtain ⟨t, q1, rfl⟩ := Option.map_eq_some_iff.1 hv
   exact c2S B hi h hR q1
  ·rw [if_neg hR] at hv; cases hv
   exact c2T B hi h (by simpa using hR)
 rw [if_neg h] at hv; have n24 := h; clear h
 by_cases h : i.Op = 26
 ·rw [if_pos h] at hv
  obtain ⟨t, q1, rfl⟩ := Option.map_eq_some_iff.1 hv
  exact c7w B hi h q1
 rw [if_neg h] at hv; have n26 := h; clear h
 by_cases h : i.Op = 27
 ·rw [if_pos h] at hv; cases hv; exact c7z B hi h
 rw [if_neg h] at hv; have n27 := h; clear h
 by_cases h : i.Op = 28
 ·rw [if_pos h] at hv; cases hv; exact c7A B hi h
 rw [if_neg h] at hv; have n28 := h; clear h
 by_cases h : i.Op = 29
 ·rw [if_pos h] at hv
  obtain ⟨t, q1, rfl⟩ := Option.map_eq_some_iff.1 hv
  exact c7x B hi h q1
 rw [if_neg h] at hv; have n29 := h; clear h
 by_cases h : i.Op = 30
 ·rw [if_pos h] at hv
  obtain ⟨t, q1, rfl⟩ := Option.map_eq_some_iff.1 hv
  exact c7y B hi h q1
 rw [if_neg h] at hv; have n30 := h; clear h
 by_cases h : i.Op = 32
 ·rw [if_pos h] at hv
  obtain ⟨k, q1, hv⟩ := Option.bind_eq_some_iff.1 hv
  obtain ⟨t, q2, rfl⟩ := Option.map_eq_some_iff.1 hv
  exact c7B B hi h q1 q2
 rw [if_neg h] at hv; have n32 := h; clear h
 obtain ⟨t1, q1, hv⟩ := Option.bind_eq_some_iff.1 hv
 obtain ⟨t2, q2, rfl⟩ := Option.map_eq_some_iff.1 hv
 have n21 : i.Op ≠ 21 := fun e => n7 (.inl e)
 have n31 : i.Op ≠ 31 := fun e => n7 (.inr e)
 exact c2U B hi ⟨by simpa using n1, by simpa using n2, by simpa using n3, by simpa using n4, by simpa using n5, by simpa using n6, by simpa using n21, by simpa using n31, by simpa using n22, by simpa using n23, by simpa using n25, by simpa using n24, by simpa using n26, by simpa using n27, by simpa using n28, by simpa using n29, by simpa using n30, by simpa using n32⟩ q1 q2
end
end Go.Proofs.Ytnpemocpfdgaoaa

/- build: which locals are cells: the walk. -/
namespace Go.Proofs.Ytnpemocpfdgaoaa
open Go Go.Ab
set_option maxRecDepth 20000
set_option maxHeartbeats 2000000
noncomputable def c7F : FC := fcO 53
theorem c7G : Fn3 Try.prog 53 88 [] c7F := ⟨_, _, Try.func53, rfl, rfl, rfl, by kernel_rfl⟩

def a2V (f : Func) (k : Nat) : Bool := decide ((k : Int) = f.Keep) || f.Code.any fun x => x.Op == 4 && x.Arg == (k : Int)
def a0s (f : Func) (k : Nat) : Nat := ((List.range k).filter (a2V f)).length
def a0N (f : Func) (k : Nat) : Int := if a2V f k = true then (a0s f k : Int) else -1
def j5 (f : Func) (n k : Nat) : List Int := (List.range n).map fun j => if j < k then a0N f j else 0
theorem a3q {f : Func} {k : Nat} : a0s f (k + 1) = a0s f k + (if a2V f k = true then 1 else 0) := by
 unfold a0s
 rw [List.range_succ, List.filter_append, List.length_append]
 by_cases h : a2V f k = true
 ·simp [h]
 ·simp [h]
theorem a5S {f : Func} {n k : Nat} (h : k < n) : (j5 f n k).set k (a0N f k) = j5 f n (k + 1) := by
 refine List.ext_getElem? fun j => ?_
 unfold j5
 by_cases hj : k = j
 ·subst hj
  rw [List.getElem?_set_self (by simpa using h)]
  simp [h]
 ·rw [List.getElem?_set_ne hj]
  have : j < k + 1 ↔ j < k := by omega
  by_cases hjn : j < n
  ·simp [hjn, this]
  ·simp [hjn]
theorem a9f {f : Func} {n : Nat} : j5 f n 0 = List.replicate n 0 := by
 unfold j5
 refine List.ext_getElem zS fun j h1 h2 => by simp
abbrev bC (p : Program) (f : Func) (c2 pa ki : AV) (n : Int) (ini : AV) (res : Bool) (kp : Int) (no : AV) : List AV := [.cptr (Program.cells p) 0, .cptr (Func.cells f) 0, c2, pa, ki, .int .i64 n, ini, .bool res, .int .i64 kp, no, .int .i64 0]
section
variable {p : Program} {f : Func} {b : Nat}
theorem a7i {c2 pa ki ini no : AV} {res : Bool} {kp : Int} (hl : f.Locals.length < 1000000) (hc : f.Code.length < 1000000) :
  Tri Try.prog 53 [.ptr b 0 0] [(b, 0, bC p f c2 pa ki 0 ini res kp no)] (fun _ L' => ∃ cl, L' = [(b, 0, bC p f (.ref cl 0 0 f.Locals.length none) pa ki (a0s f f.Locals.length) ini res kp no), (cl, 0, flat (avI .i64) (j5 f f.Locals.length f.Locals.length))]) := by
 refine j7 mixed c7G zS [5, 15] (fun R S hS => ?_)
 refine aU ?_
 refine b7 hS rfl (.head _) (v := .cptr (Func.cells f) 0) rfl ?_
 refine aU ?_
 refine b2o (f := avI .i64) (x := (0 : Int)) (n := f.Locals.length) (n' := f.Locals.length) hS (d8 .i64) rfl rfl rfl rfl zO (fun cl S hS => ?_)
 refine aU ?_
 refine E_stS hS rfl (xv := .ref cl 0 0 f.Locals.length none) rfl (Rp.there Rp.here) rfl rfl zqV (fun S hS => ?_)
 refine aU ?_
 refine b7 hS rfl (.tail _ (.head _)) (v := .ref cl 0 0 f.Locals.length none) rfl ?_
 refine aU ?_
 have hS1 : Ab.Sep S ((cl, 0, flat (avI .i64) (j5 f f.Locals.length 0)) :: (b, 0, bC p f (.ref cl 0 0 f.Locals.length none) pa ki (a0s f 0) ini res kp no) :: ([] ++ R)) := by
  rw [a9f]; exact hS
 clear hS
 refine a1i f.Locals.length (fun _ : Nat => [(0, .ptr b 0 0)]) (fun q => (cl, 0, flat (avI .i64) (j5 f f.Locals.length q)) :: (b, 0, bC p f (.ref cl 0 0 f.Locals.length none) pa ki (a0s f q) ini res kp no) :: ([] ++ R)) (fun k q => q = k) 0 hS1 rfl wF zO zD zD (fun _ => ⟨rfl, rfl, rfl, rfl⟩) (fun k q S hi hI hS => ?_) (fun q fr' S hI hS hw => ?_)
 ·subst hI
  have hcb : a0s f q <= q := by unfold a0s; exact Nat.le_trans (List.length_filter_le _ _) zS
  have hln : (j5 f f.Locals.length q).length = f.Locals.length := by simp [j5]
  refine aU ?_
  refine b7 hS rfl (.tail _ (.head _)) (v := .ref cl 0 0 f.Locals.length none) rfl ?_
  refine aU ?_
  refine s6 rfl rfl q rfl hi ?_
  refine a5P (y' := (-1 : Int)) (l := j5 f f.Locals.length q) hS (d8 .i64) rfl (xv := .int .i64 (-1)) rfl (n := q) (fo := 0) (y := 0) (by simp [d9]) (by simp [j5, hi]) Rp.here rfl rfl (by simp [d9]) rfl (fun S hS => ?_)
  refine aU ?_
  refine b7 hS rfl (.tail _ (.head _)) (v := .cptr (Func.cells f) 0) rfl ?_
  refine aU ?_
  refine b7 hS rfl (.tail _ (.head _)) (v := .cptr (Func.cells f) 0) rfl ?_
  refine aU ?_
  refine a7S (σ := Unit) (fun _ => [(0, .ptr b 0 0), (2, .int .i64 q), (3, .bool (a2V f q)), (23, .int .i64 q), (22, .int .i64 f.Locals.length)]) (fun _ => (cl, 0, flat (avI .i64) ((j5 f f.Locals.length q).set q (-1))) :: (b, 0, bC p f (.ref cl 0 0 f.Locals.length none) pa ki (a0s f q) ini res kp no) :: ([] ++ R)) (fun _ => True) ?_ (fun _ S _ hS => ?_)
  ·refine a1i f.Code.length (fun w : Bool => [(0, .ptr b 0 0), (2, .int .i64 q), (3, .bool w), (23, .int .i64 q), (22, .int .i64 f.Locals.length), (47, .sl false 3 (f.Code.map Instr.av))]) (fun _ => (cl, 0, flat (avI .i64) ((j5 f f.Locals.length q).set q (-1))) :: (b, 0, bC p f (.ref cl 0 0 f.Locals.length none) pa ki (a0s f q) ini res kp no) :: ([] ++ R)) (fun k w => w = (decide ((q : Int) = f.Keep) || (f.Code.take k).any fun x => x.Op == 4 && x.Arg == (q : Int))) ((q : Int) == f.Keep) hS (by simp; rfl) wF zO zD zD (fun _ => ⟨rfl, rfl, rfl, rfl⟩) (fun k w S hi2 hI hS => ?_) (fun w fr' S hI hS hw => ?_)
   ·have hx : f.Code[k]? = some f.Code[k] := List.getElem?_eq_getElem hi2
    refine aU ?_
    refine g8 (esh := some 3) (f := Instr.av) (ys := f.Code) (y := f.Code[k]) (n := (k : Int)) rfl rfl (by unfold j9; rw [if_pos zO]; exact hx) ?_
    refine aU ?_
    refine z7 hS rfl (fun o5 S hS => ?_)
    refine E_stS hS rfl (xv := f.Code[k].av) rfl Rp.here rfl rfl zqV (fun S hS => ?_)
    refine aU ?_
    have htk : ((f.Code.take (k + 1)).any fun x => x.Op == 4 && x.Arg == (q : Int)) = (((f.Code.take k).any fun x => x.Op == 4 && x.Arg == (q : Int)) || (f.Code[k].Op == 4 && f.Code[k].Arg == (q : Int))) := by
     rw [List.take_add_one, hx, List.any_append]; simp
    cases w with
    | true =>
      refine aU ?_
      exact R_n true (by rw [htk, <- Bool.or_assoc, <- hI]; rfl) (hS.sub (List.sublist_cons_self _ _)) wF
    | false =>
      refine aU ?_
      refine b7 hS rfl (.head _) (v := .int .u8 f.Code[k].Op) rfl ?_
      refine aU ?_
      rcases Bool.eq_false_or_eq_true (f.Code[k].Op == 4) with h4 | h4
      ·rw [h4]
       refine aU ?_
       refine b7 hS rfl (.head _) (v := .int .i64 f.Code[k].Arg) rfl ?_
       refine aU ?_
       exact R_n (f.Code[k].Arg == (q : Int)) (by rw [htk, <- Bool.or_assoc, <- hI, h4]; simp) (hS.sub (List.sublist_cons_self _ _)) wF
      ·rw [h4]
       refine aU ?_
       exact R_n false (by rw [htk, <- Bool.or_assoc, <- hI, h4]; simp) (hS.sub (List.sublist_cons_self _ _)) wF
   ·have hw' : w = a2V f q := by rw [hI, List.take_length]; rfl
    subst hw'
    exact s7 ⟨(), trivial, hS, v4 hw wF⟩
  ·refine aU ?_
   have hset : ((j5 f f.Locals.length q).set q (-1))[q]? = some (-1) := List.getElem?_set_self (by rw [hln]; exact hi)
   refine E_cs (t := a2V f q) rfl (fun hb => ?_) (fun hb => ?_)
   ·refine aU ?_
    refine b7 hS rfl (.tail _ (.head _)) (v := .ref cl 0 0 f.Locals.length none) rfl ?_
    refine aU ?_
    refine b7 hS rfl (.tail _ (.head _)) (v := .int .i64 (a0s f q)) rfl ?_
    refine aU ?_
    refine s6 rfl rfl q rfl hi ?_
    refine a5P (y' := (a0s f q : Int)) (l := (j5 f f.Locals.length q).set q (-1)) hS (d8 .i64) rfl (xv := .int .i64 (a0s f q)) rfl (n := q) (fo := 0) (y := -1) (by simp [d9]) hset Rp.here rfl rfl (by simp [d9]) rfl (fun S hS => ?_)
    refine aU ?_
    refine b7 hS rfl (.tail _ (.head _)) (v := .int .i64 (a0s f q)) rfl ?_
    refine aU ?_
    refine E_stS hS rfl (xv := .int .i64 (a0s f (q + 1))) (by show AV.int .i64 (IntKind.i64.wrap ((a0s f q : Int) + 1)) = _; rw [p4 zO, a3q, if_pos hb]; rfl) (Rp.there Rp.here) rfl rfl zqV (fun S hS => ?_)
    refine aU ?_
    have e1 : ((j5 f f.Locals.length q).set q (-1)).set q (a0s f q : Int) = j5 f f.Locals.length (q + 1) := by
     rw [List.set_set, <- a5S hi, a0N, if_pos hb]
    rw [e1] at hS
    exact R_n (q + 1) rfl hS wF
   ·refine aU ?_
    have e1 : (j5 f f.Locals.length q).set q (-1) = j5 f f.Locals.length (q + 1) := by
     rw [<- a5S hi, a0N, if_neg (by simp [hb])]
    have e2 : a0s f (q + 1) = a0s f q := by rw [a3q, if_neg (by simp [hb])]; rfl
    rw [e1, <- e2] at hS
    exact R_n (q + 1) rfl hS wF
 ·subst hI
  refine ⟨trivial, _, rfl, _, ⟨cl, rfl⟩, ?_⟩
  exact hS.perm (List.Perm.swap _ _ _)
end
end Go.Proofs.Ytnpemocpfdgaoaa

/- build: the graph of a function: the walk. -/
namespace Go.Proofs.Ytnpemocpfdgaoaa
open Go Go.Ab
set_option maxRecDepth 20000
set_option maxHeartbeats 2000000
def c2X : FC := .reg [⟨(some 8), none, .op (.new [.nils, .nils, (.int .i64 0), .nils, (.bool false), (.int .i64 0), .nils, (.int .i64 0)])⟩] []
def c2Y : FC := .reg [⟨(some 14), none, .op (.mv (.t 0))⟩,  ⟨(some 15), none, .op (.mv (.t 1))⟩,  ⟨(some 16), none, .op (.mv (.t 1))⟩,  ⟨(some 17), none, .op (.nchk (.t 16))⟩,  ⟨(some 18), none, .op (.fad 2 (.t 17))⟩,  ⟨(some 19), none, .op (.load none (.t 18))⟩,  ⟨(some 20), none, .op (.build [.nils, .nils, (.int .i64 0), .nils, (.bool false), (.int .i64 0), .nils, (.int .i64 0)] [(4, 1, (.t 19)), (5, 1, (.v (.int .i64 (-1))))])⟩,  ⟨(some 21), none, .op (.build [.nilp, .nilp, .nils, .nils, .nils, (.int .i64 0), .nils, (.bool false), (.int .i64 0), .nils, (.int .i64 0)] [(0, 1, (.t 14)), (1, 1, (.t 15)), (3, 8, (.t 20))])⟩,  ⟨(some 22), none, .op (.box (.t 21))⟩,  ⟨(some 9), none, .op (.mv (.t 22))⟩] []
def c2Z : FC := .reg [⟨(some 23), none, .op (.mv (.t 9))⟩,  ⟨(some 24), none, .call 53 [(.t 23)]⟩] []
def c3a : FC := .reg [⟨(some 25), none, .op (.mv (.t 9))⟩,  ⟨(some 26), none, .op (.mv (.t 9))⟩,  ⟨(some 27), none, .op (.nchk (.t 26))⟩,  ⟨(some 28), none, .op (.fad 3 (.t 27))⟩,  ⟨(some 29), none, .op (.fad 1 (.t 28))⟩,  ⟨(some 30), none, .op (.load none (.t 29))⟩,  ⟨(some 31), none, .op (.mv (.t 1))⟩,  ⟨(some 32), none, .op (.nchk (.t 31))⟩,  ⟨(some 33), none, .op (.fad 1 (.t 32))⟩,  ⟨(some 34), none, .op (.load none (.t 33))⟩,  ⟨(some 35), none, .op (.app none 1 (.t 30) (.t 34))⟩,  ⟨(some 36), none, .op (.nchk (.t 25))⟩,  ⟨(some 37), none, .op (.fad 3 (.t 36))⟩,  ⟨(some 38), none, .op (.fad 1 (.t 37))⟩,  ⟨none, none, .op (.store 1 (.t 38) (.t 35))⟩] []
def c3b : FC := .reg [⟨(some 39), none, .op (.mv (.v (.int .i64 0)))⟩] []
def c3c : FC := .reg [⟨(some 41), none, .op (.mv (.t 9))⟩,  ⟨(some 42), none, .op (.mv (.t 9))⟩,  ⟨(some 43), none, .op (.nchk (.t 42))⟩,  ⟨(some 44), none, .op (.fad 3 (.t 43))⟩,  ⟨(some 45), none, .op (.fad 1 (.t 44))⟩,  ⟨(some 46), none, .op (.load none (.t 45))⟩,  ⟨(some 47), none, .op (.bsl none [(.int .u8 0)] 2 [(0, 1, (.v (.int .u8 0))), (1, 1, (.v (.int .u8 1)))])⟩,  ⟨(some 48), none, .op (.app none 1 (.t 46) (.t 47))⟩,  ⟨(some 49), none, .op (.nchk (.t 41))⟩,  ⟨(some 50), none, .op (.fad 3 (.t 49))⟩,  ⟨(some 51), none, .op (.fad 1 (.t 50))⟩,  ⟨none, none, .op (.store 1 (.t 51) (.t 48))⟩] []
def c3d : FC := .loop (.seq (.reg [⟨(some 40), none, .op (.bin .none .lss (.t 39) (.v (.int .i64 16)))⟩] []) (.seq (.cond (.t 40) .skip (.exit 0)) (.seq (.block 1 c3c) (.reg [⟨(some 52), none, .op (.bin .none .add (.t 39) (.v (.int .i64 1)))⟩,  ⟨(some 39), none, .op (.mv (.t 52))⟩] []))))
def c3e : FC := .block 0 c3d
def c3f : FC := .seq c3b c3e
def b8F : FC := .reg [⟨(some 53), none, .op (.mv (.t 1))⟩,  ⟨(some 54), none, .op (.nchk (.t 53))⟩,  ⟨(some 55), none, .op (.fad 0 (.t 54))⟩,  ⟨(some 56), none, .op (.load none (.t 55))⟩,  ⟨(some 57), none, .op (.mv (.v (.int .i64 0)))⟩] []
def b8G : FC := .reg [⟨(some 59), none, .op (.mv (.t 57))⟩,  ⟨(some 10), none, .op (.mv (.t 59))⟩] []
def b8H : FC := .reg [⟨(some 60), none, .op (.mv (.t 9))⟩,  ⟨(some 61), none, .op (.mv (.t 9))⟩,  ⟨(some 62), none, .op (.mv (.t 9))⟩,  ⟨(some 63), none, .op (.nchk (.t 62))⟩,  ⟨(some 64), none, .op (.fad 3 (.t 63))⟩,  ⟨(some 65), none, .op (.fad 0 (.t 64))⟩,  ⟨(some 66), none, .op (.load none (.t 65))⟩,  ⟨(some 67), none, .op (.mv (.t 10))⟩,  ⟨(some 68), none, .op (.bsl none [(.int .i64 0)] 1 [(0, 1, (.t 67))])⟩,  ⟨(some 69), none, .op (.app none 8 (.t 66) (.t 68))⟩,  ⟨(some 70), none, .op (.mv (.t 9))⟩,  ⟨(some 71), none, .op (.nchk (.t 70))⟩,  ⟨(some 72), none, .op (.fad 3 (.t 71))⟩,  ⟨(some 73), none, .op (.fad 3 (.t 72))⟩,  ⟨(some 74), none, .op (.load none (.t 73))⟩,  ⟨(some 75), none, .op (.mv (.t 9))⟩,  ⟨(some 76), none, .op (.nchk (.t 75))⟩,  ⟨(some 77), none, .op (.fad 2 (.t 76))⟩,  ⟨(some 78), none, .op (.load none (.t 77))⟩,  ⟨(some 79), none, .op (.mv (.t 10))⟩,  ⟨(some 80), none, .op (.iad none none (.t 78) (.t 79))⟩,  ⟨(some 81), none, .op (.load none (.t 80))⟩,  ⟨(some 82), none, .op (.bsl none [(.int .i64 0)] 1 [(0, 1, (.t 81))])⟩,  ⟨(some 83), none, .op (.app none 8 (.t 74) (.t 82))⟩,  ⟨(some 84), none, .op (.nchk (.t 60))⟩,  ⟨(some 85), none, .op (.fad 3 (.t 84))⟩,  ⟨(some 86), none, .op (.fad 0 (.t 85))⟩,  ⟨none, none, .op (.store 1 (.t 86) (.t 69))⟩,  ⟨(some 87), none, .op (.nchk (.t 61))⟩,  ⟨(some 88), none, .op (.fad 3 (.t 87))⟩,  ⟨(some 89), none, .op (.fad 3 (.t 88))⟩,  ⟨none, none, .op (.store 1 (.t 89) (.t 83))⟩] [(6, 8), (8, 14), (9, 14), (8, 18), (9, 18), (8, 21), (9, 21), (6, 22), (8, 22), (9, 22), (14, 22)]
def b8I : FC := .seq b8G b8H
def b8J : FC := .loop (.seq (.reg [⟨(some 58), none, .op (.bin .none .lss (.t 57) (.t 56))⟩] []) (.seq (.cond (.t 58) .skip (.exit 2)) (.seq (.block 3 b8I) (.reg [⟨(some 90), none, .op (.bin .none .add (.t 57) (.v (.int .i64 1)))⟩,  ⟨(some 57), none, .op (.mv (.t 90))⟩] []))))
def b8K : FC := .block 2 b8J
def b8L : FC := .seq b8F b8K
def b8M : FC := .reg [⟨(some 91), none, .op (.mv (.t 1))⟩,  ⟨(some 92), none, .op (.nchk (.t 91))⟩,  ⟨(some 93), none, .op (.fad 3 (.t 92))⟩,  ⟨(some 94), none, .op (.load none (.t 93))⟩,  ⟨(some 95), none, .op (.bin .none .geq (.t 94) (.v (.int .i64 0)))⟩] []
def b8N : FC := .reg [⟨(some 96), none, .op (.mv (.t 9))⟩,  ⟨(some 97), none, .op (.mv (.t 9))⟩,  ⟨(some 98), none, .op (.nchk (.t 97))⟩,  ⟨(some 99), none, .op (.fad 2 (.t 98))⟩,  ⟨(some 100), none, .op (.load none (.t 99))⟩,  ⟨(some 101), none, .op (.mv (.t 1))⟩,  ⟨(some 102), none, .op (.nchk (.t 101))⟩,  ⟨(some 103), none, .op (.fad 3 (.t 102))⟩,  ⟨(some 104), none, .op (.load none (.t 103))⟩,  ⟨(some 105), none, .op (.iad none none (.t 100) (.t 104))⟩,  ⟨(some 106), none, .op (.load none (.t 105))⟩,  ⟨(some 107), none, .op (.nchk (.t 96))⟩,  ⟨(some 108), none, .op (.fad 3 (.t 107))⟩,  ⟨(some 109), none, .op (.fad 5 (.t 108))⟩,  ⟨none, none, .op (.store 1 (.t 109) (.t 106))⟩] []
def b8O : FC := .cond (.t 95) b8N FC.skip
def b8P : FC := .seq b8M b8O
def b8Q : FC := .reg [⟨(some 110), none, .op (.mv (.t 2))⟩,  ⟨(some 111), none, .op (.len .sl (.t 110))⟩,  ⟨(some 112), none, .op (.mv (.v (.int .i64 0)))⟩] []
def b8R : FC := .reg [⟨(some 114), none, .op (.mv (.t 112))⟩,  ⟨(some 115), none, .op (.iad none none (.t 110) (.t 112))⟩,  ⟨(some 116), none, .op (.load none (.t 115))⟩,  ⟨(some 11), none, .op (.mv (.t 114))⟩,  ⟨(some 12), none, .op (.mv (.t 116))⟩] []
def b8S : FC := .reg [⟨(some 117), none, .op (.mv (.t 11))⟩,  ⟨(some 118), none, .op (.build [(.int .u8 0), (.int .u8 0), (.int .i64 0), (.int .i64 0), (.int .i64 0), (.int .i64 0), (.int .i64 0), (.int .i64 0), (.int .u64 0), .nils, (.int .i64 0), (.int .i64 0)] [(0, 1, (.v (.int .u8 10))), (10, 1, (.t 117))])⟩,  ⟨(some 13), none, .op (.new [(.int .u8 0), (.int .u8 0), (.int .i64 0), (.int .i64 0), (.int .i64 0), (.int .i64 0), (.int .i64 0), (.int .i64 0), (.int .u64 0), .nils, (.int .i64 0), (.int .i64 0)])⟩,  ⟨none, none, .op (.store 12 (.t 13) (.t 118))⟩] []
def b8T : FC := .reg [⟨(some 119), none, .op (.mv (.t 12))⟩] []
def b8U : FC := .reg [⟨(some 120), none, .op (.mv (.t 9))⟩,  ⟨(some 121), none, .op (.mv (.t 11))⟩,  ⟨(some 122), none, .op (.mv (.t 3))⟩,  ⟨(some 123), none, .op (.mv (.t 11))⟩,  ⟨(some 124), none, .op (.iad none none (.t 122) (.t 123))⟩,  ⟨(some 125), none, .op (.load none (.t 124))⟩,  ⟨(some 126), none, .call 54 [(.t 120), (.t 121), (.t 125)]⟩,  ⟨none, none, .op (.store 12 (.t 13) (.t 126))⟩] []
def b8V : FC := .cond (.t 119) b8U FC.skip
def b8W : FC := .seq b8T b8V
def b8X : FC := .reg [⟨(some 127), none, .op (.mv (.t 9))⟩,  ⟨(some 128), none, .op (.mv (.t 9))⟩,  ⟨(some 129), none, .op (.nchk (.t 128))⟩,  ⟨(some 130), none, .op (.fad 3 (.t 129))⟩,  ⟨(some 131), none, .op (.fad 6 (.t 130))⟩,  ⟨(some 132), none, .op (.load none (.t 131))⟩,  ⟨(some 133), none, .op (.load (some 12) (.t 13))⟩,  ⟨(some 134), none, .op (.bsl (some 12) [(.int .u8 0), (.int .u8 0), (.int .i64 0), (.int .i64 0), (.int .i64 0), (.int .i64 0), (.int .i64 0), (.int .i64 0), (.int .u64 0), .nils, (.int .i64 0), (.int .i64 0)] 1 [(0, 12, (.t 133))])⟩,  ⟨(some 135), none, .op (.app (some 12) 104 (.t 132) (.t 134))⟩,  ⟨(some 136), none, .op (.nchk (.t 127))⟩,  ⟨(some 137), none, .op (.fad 3 (.t 136))⟩,  ⟨(some 138), none, .op (.fad 6 (.t 137))⟩,  ⟨none, none, .op (.store 1 (.t 138) (.t 135))⟩] [(5, 7)]
def b8Y : FC := .seq b8W b8X
def b8Z : FC := .seq b8S b8Y
def b9a : FC := .seq b8R b8Z
def b9b : FC := .loop (.seq (.reg [⟨(some 113), none, .op (.bin .none .lss (.t 112) (.t 111))⟩] []) (.seq (.cond (.t 113) .skip (.exit 4)) (.seq (.block 5 b9a) (.reg [⟨(some 139), none, .op (.bin .none .add (.t 112) (.v (.int .i64 1)))⟩,  ⟨(some 112), none, .op (.mv (.t 139))⟩] []))))
def b9c : FC := .block 4 b9b
def b9d : FC := .seq b8Q b9c
def b9e : FC := .reg [⟨(some 140), none, .op (.mv (.t 9))⟩,  ⟨(some 141), none, .op (.nchk (.t 140))⟩,  ⟨(some 142), none, .op (.fad 3 (.t 141))⟩,  ⟨(some 143), none, .op (.load (some 8) (.t 142))⟩,  ⟨none, none, .op (.store 8 (.t 8) (.t 143))⟩] []
def b9f : FC := .seq b9e FC.ret
def b9g : FC := .seq b9d b9f
def b9h : FC := .seq b8P b9g
def b9i : FC := .seq b8L b9h
def b9j : FC := .seq c3f b9i
def b9k : FC := .seq c3a b9j
def b9l : FC := .seq c2Z b9k
def b9m : FC := .seq c2Y b9l
def b9n : FC := .seq c2X b9m
def c7H : FC := b9n
theorem c6w : Fn3 Try.prog 29 144 [(8, (some (some 8)))] c7H := ⟨_, _, Try.func29, rfl, rfl, rfl, by kernel_rfl⟩

def ndK (p : Program) (f : Func) (rd : List Bool) (st : List (List Int)) (k : Nat) : Option b8 :=
 (rd[k]?).bind fun is => if is = true then (st[k]?).bind fun s => (j9 f.Code (k : Int)).bind fun i => (ndI p f (j5 f f.Locals.length f.Locals.length) s i).map fun n => { n with Next := o9 f (k : Int) i }
 else some ⟨10, 0, 0, 0, 0, 0, 0, 0, 0, [], (k : Int), 0⟩
def ndS (p : Program) (f : Func) (rd : List Bool) (st : List (List Int)) : Nat -> Option (List b8)
 | 0 => some []
 | k + 1 => (ndS p f rd st k).bind fun l => (ndK p f rd st k).map fun n => l ++ [n]
def j3 : Nat -> List Int
 | 0 => []
 | k + 1 => j3 k ++ [0, 1]
def a4V (p : Program) (f : Func) (rd : List Bool) (st : List (List Int)) : Option a9 :=
 (ndS p f rd st rd.length).bind fun nds =>
  (if 0 <= f.Keep then j9 (j5 f f.Locals.length f.Locals.length) f.Keep else some (-1)).map fun kp =>
   ⟨(List.range f.Params.toNat).map fun (j : Nat) => (j : Int), f.Locals ++ j3 16, a0s f f.Locals.length, (j5 f f.Locals.length f.Locals.length).take f.Params.toNat, f.Result, kp, nds, 0⟩
theorem a1X {p : Program} {f : Func} {rd : List Bool} {st : List (List Int)} : ∀ {k : Nat} {l : List b8}, ndS p f rd st k = some l -> l.length = k /\ ∀ j, j < k -> ∃ l1 n, ndS p f rd st j = some l1 /\ ndK p f rd st j = some n /\ ndS p f rd st (j + 1) = some (l1 ++ [n])
 | 0, l, h => by cases h; exact ⟨rfl, fun j hj => absurd hj zO⟩
 | k + 1, l, h => by
   have h0 := h
   unfold ndS at h
   obtain ⟨l1, h1, h2⟩ := Option.bind_eq_some_iff.1 h
   obtain ⟨n, h3, rfl⟩ := Option.map_eq_some_iff.1 h2
   obtain ⟨a, b⟩ := a1X h1
   refine ⟨by simp [a], fun j hj => ?_⟩
   by_cases hjk : j = k
   ·subst hjk; exact ⟨l1, n, h1, h3, h0⟩
   ·exact b j zO
theorem r9 : ∀ k, (j3 k).length = 2 * k
 | 0 => rfl
 | k + 1 => by show (j3 k ++ [0, 1]).length = _; rw [List.length_append, r9 k]; rfl
theorem a4W {P : Go.Program} {S0 : List Ob} {ow : List Nat} {b : FC} {K K0 : Post} {fr F : Fr} {S : List Ob} (hw : Wk S0 fr S F S) (h : Post.thn (fun fr' S' => ∃ F T, Wk S0 fr' S' F T /\ VT P S0 ow b F T K) K0 .normal F S) : Post.thn (fun fr' S' => ∃ F T, Wk S0 fr' S' F T /\ VT P S0 ow b F T K) K0 .normal fr S := by
 obtain ⟨F2, T2, a, c⟩ := h
 exact ⟨F2, T2, v4 hw a, c⟩
section
variable {p : Program} {f : Func} {rd : List Bool} {st : List (List Int)}
theorem b0P {g : a9} (hl : f.Locals.length < 1000) (hc : f.Code.length < 100000) (hp : 0 <= f.Params /\ f.Params <= f.Locals.length) (hk0 : f.Keep < f.Locals.length) (hlk : ∀ k ∈ f.Locals, 0 <= k /\ k < 256) (hrd : rd.length < 100000) (hst : ∀ s ∈ st, s.length < 100000 /\ ∀ k ∈ s, 0 <= k /\ k < 256) (hg : a4V p f rd st = some g) :
  Tri Try.prog 29 [.cptr (Program.cells p) 0, .cptr (Func.cells f) 0, .sl false 1 (rd.map avB), .sl false 1 (st.map (avL 1 (avI .u8)))] [] (fun x L' => x = a9.av g /\ L' = []) := by
 obtain ⟨nds, h1, h2⟩ := Option.bind_eq_some_iff.1 hg
 obtain ⟨kp, h3, rfl⟩ := Option.map_eq_some_iff.1 h2
 obtain ⟨np, hnp⟩ : ∃ np : Nat, f.Params = (np : Int) := ⟨f.Params.toNat, by omega⟩
 rw [show f.Params.toNat = np by omega]
 refine j7 mixed c6w zS [8, 13, 22] (fun R S hS => ?_)
 refine aU ?_
 refine z7 hS rfl (fun o8 S hS => ?_)
 refine a7 ?_
 refine d7 ?_
 refine aQ ?_
 refine aU ?_
 refine a3J hS rfl (xv := .agg (bC p f (.nils) (.nils) (.nils) (0) (.nils) f.Result (-1) (.nils))) rfl rfl (fun b S hS => ?_)
 refine aS ?_
 refine a7 ?_
 refine a3n 3 none (Lf := fun o' => (b, 0, bC p f (.nils) (.ref o' 0 0 0 none) (.nils) (0) (.nils) f.Result (-1) (.nils)) :: (o8, 0, [.nils, .nils, .int .i64 0, .nils, .bool false, .int .i64 0, .nils, .int .i64 0]) :: ([] ++ R)) hS (fun o' => Rp.here) rfl (fun pa S hS => ?_)
 refine a3n 4 none (Lf := fun o' => (pa, 0, []) :: (b, 0, bC p f (.nils) (.ref pa 0 0 0 none) (.ref o' 0 0 0 none) (0) (.nils) f.Result (-1) (.nils)) :: (o8, 0, [.nils, .nils, .int .i64 0, .nils, .bool false, .int .i64 0, .nils, .int .i64 0]) :: ([] ++ R)) hS (fun o' => Rp.there Rp.here) rfl (fun ki S hS => ?_)
 refine a3n 6 none (Lf := fun o' => (ki, 0, []) :: (pa, 0, []) :: (b, 0, bC p f (.nils) (.ref pa 0 0 0 none) (.ref ki 0 0 0 none) (0) (.ref o' 0 0 0 none) f.Result (-1) (.nils)) :: (o8, 0, [.nils, .nils, .int .i64 0, .nils, .bool false, .int .i64 0, .nils, .int .i64 0]) :: ([] ++ R)) hS (fun o' => Rp.there (Rp.there Rp.here)) rfl (fun ini S hS => ?_)
 refine a9d 9 (some 12) (Lf := fun o' => (ini, 0, []) :: (ki, 0, []) :: (pa, 0, []) :: (b, 0, bC p f (.nils) (.ref pa 0 0 0 none) (.ref ki 0 0 0 none) (0) (.ref ini 0 0 0 none) f.Result (-1) (.ref o' 0 0 0 (some 12))) :: (o8, 0, [.nils, .nils, .int .i64 0, .nils, .bool false, .int .i64 0, .nils, .int .i64 0]) :: ([] ++ R)) hS (fun o' => Rp.there (Rp.there (Rp.there Rp.here))) rfl (fun no S hS => ?_)
 refine aU ?_
 refine a2S (a7i zO zO) hS rfl (Spl.cons (Pk.there (Pk.there (Pk.there (Pk.there Pk.here)))) Spl.nil) (fun x S L' hL hS => ?_)
 obtain ⟨cl, rfl⟩ := hL
 refine aU ?_
 refine b7 hS rfl (.head _) (v := .ref ki 0 0 0 none) rfl ?_
 refine aU ?_
 refine a3m (o := ki) (ver := 0) (f := avI .u8) (l := []) (m := f.Locals) (j := []) hS (d8 .u8) rfl (u3 f.Locals) (Rp.there (Rp.there (Rp.there (Rp.there Rp.here)))) ⟨by simp; omega, by simp; omega⟩ (fun S hS => ?_)
 refine aU ?_
 refine E_stS hS rfl (xv := .ref ki 1 0 f.Locals.length none) rfl Rp.here rfl rfl zqV (fun S hS => ?_)
 refine a7 ?_
 refine d7 ?_
 refine a5O (σ := Unit) (fun _ => [(1, .cptr (Func.cells f) 0), (2, .sl false 1 (rd.map avB)), (3, .sl false 1 (st.map (avL 1 (avI .u8)))), (8, .ptr o8 0 0), (9, .ptr b 0 0)]) (fun _ => (b, 0, bC p f (.ref cl 0 0 f.Locals.length none) (.ref pa 0 0 0 none) (.ref ki 17 0 (f.Locals.length + 32) none) (a0s f f.Locals.length) (.ref ini 0 0 0 none) f.Result (-1) (.ref no 0 0 0 (some 12))) :: (cl, 0, flat (avI .i64) (j5 f f.Locals.length f.Locals.length)) :: (no, 0, []) :: (ini, 0, []) :: (ki, 17, flat (avI .u8) (f.Locals ++ j3 16)) :: (pa, 0, []) :: (o8, 0, [.nils, .nils, .int .i64 0, .nils, .bool false, .int .i64 0, .nils, .int .i64 0]) :: ([] ++ R)) (fun _ => True) ?_ (fun _ S _ hS => ?_)
 ·refine c7 ?_
  refine a8 ?_
  refine aU ?_
  refine p5 (a2t (σ := Nat) (fun k => [(1, .cptr (Func.cells f) 0), (2, .sl false 1 (rd.map avB)), (3, .sl false 1 (st.map (avL 1 (avI .u8)))), (8, .ptr o8 0 0), (9, .ptr b 0 0), (39, .int .i64 k)]) (fun k => (b, 0, bC p f (.ref cl 0 0 f.Locals.length none) (.ref pa 0 0 0 none) (.ref ki (1 + k) 0 (f.Locals.length + 2 * k) none) (a0s f f.Locals.length) (.ref ini 0 0 0 none) f.Result (-1) (.ref no 0 0 0 (some 12))) :: (cl, 0, flat (avI .i64) (j5 f f.Locals.length f.Locals.length)) :: (no, 0, []) :: (ini, 0, []) :: (ki, 1 + k, flat (avI .u8) (f.Locals ++ j3 k)) :: (pa, 0, []) :: (o8, 0, [.nils, .nils, .int .i64 0, .nils, .bool false, .int .i64 0, .nils, .int .i64 0]) :: ([] ++ R)) (fun k => k <= 16) (fun k => 16 - k) 0 (by rw [show f.Locals ++ j3 0 = f.Locals by simp [j3]]; exact hS) (Nat.zero_le _) wF (fun k S hI hS => ?_))
  refine aU ?_
  by_cases hk : k < 16
  ·refine E_cs (t := true) (by show AV.bool (decide ((k : Int) < 16)) = _; simp; omega) (fun _ => ?_) (fun h => by cases h)
   refine aU ?_
   refine p5 ?_
   refine aU ?_
   refine b7 hS rfl (.head _) (v := .ref ki (1 + k) 0 (f.Locals.length + 2 * k) none) rfl ?_
   refine aU ?_
   refine a3m (o := ki) (ver := 1 + k) (f := avI .u8) (l := f.Locals ++ j3 k) (m := [0, 1]) (j := []) hS (d8 .u8) (by show AV.ref _ _ _ _ _ = _; rw [List.length_append, r9]) (u3 [(0 : Int), 1]) (Rp.there (Rp.there (Rp.there (Rp.there (by rw [List.append_nil]; exact Rp.here))))) ⟨by simp [r9]; omega, by simp [r9]; omega⟩ (fun S hS => ?_)
   refine aU ?_
   refine E_stS hS rfl (xv := .ref ki (1 + (k + 1)) 0 (f.Locals.length + 2 * (k + 1)) none) (by show AV.ref ki (1 + k + 1) 0 ((f.Locals ++ j3 k) ++ [0, 1]).length none = _; rw [List.length_append, List.length_append, r9]; rfl) Rp.here rfl rfl zqV (fun S hS => ?_)
   refine aU ?_
   refine aE ?_
   rw [List.append_assoc] at hS
   refine aU ?_
   exact s7 ⟨k + 1, by omega, by omega, hS, a5n ⟨.refl _, .refl _, .refl _, .refl _, .refl _, by show a4m none (.int .i64 (IntKind.i64.wrap ((k : Int) + 1))) (.int .i64 ((k + 1 : Nat) : Int)); rw [p4 zO]; exact .refl _, trivial⟩⟩
  ·refine E_cs (t := false) (by show AV.bool (decide ((k : Int) < 16)) = _; simp; omega) (fun h => by cases h) (fun _ => ?_)
   have hk16 : k = 16 := by omega
   subst hk16
   refine a3f ?_
   refine aE ?_
   exact s7 ⟨(), trivial, hS, wF⟩
 refine aU ?_
 refine a1i np (fun _ : Nat => [(1, .cptr (Func.cells f) 0), (2, .sl false 1 (rd.map avB)), (3, .sl false 1 (st.map (avL 1 (avI .u8)))), (8, .ptr o8 0 0), (9, .ptr b 0 0)]) (fun q => (b, 0, bC p f (.ref cl 0 0 f.Locals.length none) (.ref pa q 0 q none) (.ref ki 17 0 (f.Locals.length + 32) none) (a0s f f.Locals.length) (.ref ini q 0 q none) f.Result (-1) (.ref no 0 0 0 (some 12))) :: (cl, 0, flat (avI .i64) (j5 f f.Locals.length f.Locals.length)) :: (no, 0, []) :: (ini, q, flat (avI .i64) ((j5 f f.Locals.length f.Locals.length).take q)) :: (ki, 17, flat (avI .u8) (f.Locals ++ j3 16)) :: (pa, q, flat (avI .i64) ((List.range q).map fun (j : Nat) => (j : Int))) :: (o8, 0, [.nils, .nils, .int .i64 0, .nils, .bool false, .int .i64 0, .nils, .int .i64 0]) :: ([] ++ R)) (fun k q => q = k) 0 hS rfl (a5n ⟨.refl _, by show a4m none (.int .i64 f.Params) (.int .i64 (np : Int)); rw [hnp]; exact .refl _, .refl _, .refl _, .refl _, .refl _, .refl _, trivial⟩) zO zD zD (fun _ => ⟨rfl, rfl, rfl, rfl⟩) (fun k q S hi hI hS => ?_) (fun q fr' S hI hS hw => ?_)
 ·subst hI
  have hcl : (j5 f f.Locals.length f.Locals.length)[q]? = some ((j5 f f.Locals.length f.Locals.length)[q]'(by simp [j5]; omega)) := List.getElem?_eq_getElem _
  have hcn : (j5 f f.Locals.length f.Locals.length).length = f.Locals.length := by simp [j5]
  generalize (j5 f f.Locals.length f.Locals.length)[q]'(by simp [j5]; omega) = cq at hcl
  have e1 : (j5 f f.Locals.length f.Locals.length).take q ++ [cq] = (j5 f f.Locals.length f.Locals.length).take (q + 1) := by rw [List.take_add_one, hcl]; rfl
  have e2 : ((List.range q).map fun (j : Nat) => (j : Int)) ++ [(q : Int)] = (List.range (q + 1)).map fun (j : Nat) => (j : Int) := by rw [List.range_succ, List.map_append]; rfl
  have hnd := hS.2
  have hpb : pa ≠ b := fun e => (List.nodup_cons.1 hnd).1 (List.mem_map.2 ⟨_, .tail _ (.tail _ (.tail _ (.tail _ (.head _)))), e⟩)
  have hpc : pa ≠ cl := fun e => (List.nodup_cons.1 (List.nodup_cons.1 hnd).2).1 (List.mem_map.2 ⟨_, .tail _ (.tail _ (.tail _ (.head _))), e⟩)
  have hib : ini ≠ b := fun e => (List.nodup_cons.1 hnd).1 (List.mem_map.2 ⟨_, .tail _ (.tail _ (.head _)), e⟩)
  refine aU ?_
  refine s4 ?_
  refine aU ?_
  refine b7 hS rfl (.head _) (v := .ref pa q 0 q none) rfl ?_
  refine aU ?_
  refine a3m (o := pa) (ver := q) (l := (List.range q).map fun (j : Nat) => (j : Int)) (m := [(q : Int)]) (j := []) hS (d8 .i64) (by show AV.ref _ _ _ _ _ = _; simp) (u3 [(q : Int)]) (Rp.there (Rp.there (Rp.there (Rp.there (Rp.there (by rw [List.append_nil]; exact Rp.here)))))) ⟨by simp; omega, by simp; omega⟩ (fun S hS => ?_)
  refine aU ?_
  refine b7 hS rfl (.head _) (v := .ref ini q 0 q none) rfl ?_
  refine aU ?_
  refine b7 hS rfl (.head _) (v := .ref cl 0 0 f.Locals.length none) rfl ?_
  refine aU ?_
  refine s6 rfl rfl q rfl zO ?_
  refine a2K hS (d8 .i64) rfl (.tail _ (.head _)) (n := q) (fo := 0) (y := cq) (by simp [d9]) hcl (v := .int .i64 cq) rfl ?_
  refine aU ?_
  refine a3m (o := ini) (ver := q) (l := (j5 f f.Locals.length f.Locals.length).take q) (m := [cq]) (j := []) hS (d8 .i64) (by show AV.ref _ _ _ _ _ = _; rw [List.length_take, hcn, Nat.min_eq_left zO]) (u3 [cq]) (Rp.there (Rp.there (Rp.there (by rw [List.append_nil]; exact Rp.here)))) ⟨by simp [hcn]; omega, by simp [hcn]; omega⟩ (fun S hS => ?_)
  refine aU ?_
  refine E_stS hS rfl (xv := .ref pa (q + 1) 0 (q + 1) none) (by show AV.ref pa (q + 1) 0 (((List.range q).map fun (j : Nat) => (j : Int)) ++ [(q : Int)]).length none = _; simp) Rp.here rfl rfl zqV (fun S hS => ?_)
  refine aU ?_
  refine E_stS hS rfl (xv := .ref ini (q + 1) 0 (q + 1) none) (by show AV.ref ini (q + 1) 0 ((j5 f f.Locals.length f.Locals.length).take q ++ [cq]).length none = _; rw [List.length_append, List.length_take, hcn, Nat.min_eq_left zO]; rfl) Rp.here rfl rfl zqV (fun S hS => ?_)
  refine a7 ?_
  refine And.intro (by simp [u7, a1u, r5, y8, hpb, hpc, hib, Ne.symm hpb, Ne.symm hpc, Ne.symm hib]) ?_
  rw [e1, e2] at hS
  refine aU ?_
  exact R_n (q + 1) rfl hS wF
 rw [hI] at hS
 refine s9 hw ?_
 refine a5O (σ := Unit) (fun _ => [(1, .cptr (Func.cells f) 0), (2, .sl false 1 (rd.map avB)), (3, .sl false 1 (st.map (avL 1 (avI .u8)))), (8, .ptr o8 0 0), (9, .ptr b 0 0)]) (fun _ => (b, 0, bC p f (.ref cl 0 0 f.Locals.length none) (.ref pa np 0 np none) (.ref ki 17 0 (f.Locals.length + 32) none) (a0s f f.Locals.length) (.ref ini np 0 np none) f.Result (kp) (.ref no 0 0 0 (some 12))) :: (cl, 0, flat (avI .i64) (j5 f f.Locals.length f.Locals.length)) :: (no, 0, []) :: (ini, np, flat (avI .i64) ((j5 f f.Locals.length f.Locals.length).take np)) :: (ki, 17, flat (avI .u8) (f.Locals ++ j3 16)) :: (pa, np, flat (avI .i64) ((List.range np).map fun (j : Nat) => (j : Int))) :: (o8, 0, [.nils, .nils, .int .i64 0, .nils, .bool false, .int .i64 0, .nils, .int .i64 0]) :: ([] ++ R)) (fun _ => True) ?_ (fun _ S _ hS => ?_)
 ·refine c7 ?_
  refine a8 ?_
  refine aU ?_
  by_cases hkp : 0 <= f.Keep
  ·rw [if_pos hkp] at h3
   obtain ⟨k1, k2, k3⟩ := g9 h3
   refine E_cs (t := true) (by show AV.bool (decide (f.Keep >= 0)) = _; simp [hkp]) (fun _ => ?_) (fun h => by cases h)
   refine aU ?_
   refine b7 hS rfl (.head _) (v := .ref cl 0 0 f.Locals.length none) rfl ?_
   refine aU ?_
   refine s6 rfl rfl f.Keep.toNat zO zO ?_
   refine a2K hS (d8 .i64) rfl (.tail _ (.head _)) (n := f.Keep.toNat) (fo := 0) (y := kp) (by simp [d9]) k3 (v := .int .i64 kp) rfl ?_
   refine aU ?_
   refine E_stS hS rfl (xv := .int .i64 kp) rfl Rp.here rfl rfl zqV (fun S hS => ?_)
   refine aU ?_
   exact s7 ⟨(), trivial, hS, wF⟩
  ·rw [if_neg hkp] at h3; cases h3
   refine E_cs (t := false) (by show AV.bool (decide (f.Keep >= 0)) = _; simp; omega) (fun h => by cases h) (fun _ => ?_)
   refine aU ?_
   exact s7 ⟨(), trivial, hS, wF⟩
 refine c7 ?_
 refine c7 ?_
 refine a8 ?_
 refine aU ?_
 refine a1i rd.length (fun _ : List b8 => [(1, .cptr (Func.cells f) 0), (2, .sl false 1 (rd.map avB)), (3, .sl false 1 (st.map (avL 1 (avI .u8)))), (8, .ptr o8 0 0), (9, .ptr b 0 0), (110, .sl false 1 (rd.map avB))]) (fun l => (b, 0, bC p f (.ref cl 0 0 f.Locals.length none) (.ref pa np 0 np none) (.ref ki 17 0 (f.Locals.length + 32) none) (a0s f f.Locals.length) (.ref ini np 0 np none) f.Result (kp) (.ref no l.length 0 l.length (some 12))) :: (cl, 0, flat (avI .i64) (j5 f f.Locals.length f.Locals.length)) :: (no, l.length, flat b8.av l) :: (ini, np, flat (avI .i64) ((j5 f f.Locals.length f.Locals.length).take np)) :: (ki, 17, flat (avI .u8) (f.Locals ++ j3 16)) :: (pa, np, flat (avI .i64) ((List.range np).map fun (j : Nat) => (j : Int))) :: (o8, 0, [.nils, .nils, .int .i64 0, .nils, .bool false, .int .i64 0, .nils, .int .i64 0]) :: ([] ++ R)) (fun k l => ndS p f rd st k = some l) [] hS rfl wF zO zD zD (fun _ => ⟨rfl, rfl, rfl, rfl⟩) (fun k l S hi hI hS => ?_) (fun l fr' S hI hS hw => ?_)
 ·obtain ⟨hlen, _⟩ := a1X hI
  obtain ⟨_, hall⟩ := a1X h1
  obtain ⟨l1, nd, a1, a2, a3⟩ := hall k hi
  rw [hI] at a1; cases a1
  have hrk : rd[k]? = some rd[k] := List.getElem?_eq_getElem hi
  refine aU ?_
  refine g8 (esh := none) (f := avB) (ys := rd) (y := rd[k]) (n := (k : Int)) rfl rfl (by unfold j9; rw [if_pos zO]; exact hrk) ?_
  refine aU ?_
  refine z7 hS rfl (fun o13 S hS => ?_)
  refine E_stS hS rfl (xv := .agg (nX .nils (⟨10, 0, 0, 0, 0, 0, 0, 0, 0, [], (k : Int), 0⟩ : b8))) rfl Rp.here rfl rfl zqV (fun S hS => ?_)
  refine a7 ?_
  refine a3n 9 none (Lf := fun o' => (o13, 0, nX (.ref o' 0 0 0 none) (⟨10, 0, 0, 0, 0, 0, 0, 0, 0, [], (k : Int), 0⟩ : b8)) :: (b, 0, bC p f (.ref cl 0 0 f.Locals.length none) (.ref pa np 0 np none) (.ref ki 17 0 (f.Locals.length + 32) none) (a0s f f.Locals.length) (.ref ini np 0 np none) f.Result (kp) (.ref no l.length 0 l.length (some 12))) :: (cl, 0, flat (avI .i64) (j5 f f.Locals.length f.Locals.length)) :: (no, l.length, flat b8.av l) :: (ini, np, flat (avI .i64) ((j5 f f.Locals.length f.Locals.length).take np)) :: (ki, 17, flat (avI .u8) (f.Locals ++ j3 16)) :: (pa, np, flat (avI .i64) ((List.range np).map fun (j : Nat) => (j : Int))) :: (o8, 0, [.nils, .nils, .int .i64 0, .nils, .bool false, .int .i64 0, .nils, .int .i64 0]) :: ([] ++ R)) hS (fun o' => Rp.here) rfl (fun q9 S hS => ?_)
  refine a8C (o := q9) (ver := 0) (o2 := o13) (v2 := 0) (jx := 9) (l := ([] : List Int)) (cs2 := nX (.ref q9 0 0 0 none) (⟨10, 0, 0, 0, 0, 0, 0, 0, 0, [], (k : Int), 0⟩ : b8)) (d8 .i64) hS Pk.here rfl Rp.here (fun S hS => ?_)
  have hS2 : Ab.Sep S ((o13, 0, b8.cells (⟨10, 0, 0, 0, 0, 0, 0, 0, 0, [], (k : Int), 0⟩ : b8)) :: (b, 0, bC p f (.ref cl 0 0 f.Locals.length none) (.ref pa np 0 np none) (.ref ki 17 0 (f.Locals.length + 32) none) (a0s f f.Locals.length) (.ref ini np 0 np none) f.Result (kp) (.ref no l.length 0 l.length (some 12))) :: (cl, 0, flat (avI .i64) (j5 f f.Locals.length f.Locals.length)) :: (no, l.length, flat b8.av l) :: (ini, np, flat (avI .i64) ((j5 f f.Locals.length f.Locals.length).take np)) :: (ki, 17, flat (avI .u8) (f.Locals ++ j3 16)) :: (pa, np, flat (avI .i64) ((List.range np).map fun (j : Nat) => (j : Int))) :: (o8, 0, [.nils, .nils, .int .i64 0, .nils, .bool false, .int .i64 0, .nils, .int .i64 0]) :: ([] ++ R)) := hS
  clear hS
  have hS := hS2
  clear hS2
  refine a5O (σ := Unit) (fun _ => [(1, .cptr (Func.cells f) 0), (2, .sl false 1 (rd.map avB)), (3, .sl false 1 (st.map (avL 1 (avI .u8)))), (8, .ptr o8 0 0), (9, .ptr b 0 0), (110, .sl false 1 (rd.map avB)), (11, .int .i64 k), (13, .ptr o13 0 0), (112, .int .i64 k), (111, .int .i64 rd.length)]) (fun _ => (o13, 0, b8.cells nd) :: (b, 0, bC p f (.ref cl 0 0 f.Locals.length none) (.ref pa np 0 np none) (.ref ki 17 0 (f.Locals.length + 32) none) (a0s f f.Locals.length) (.ref ini np 0 np none) f.Result (kp) (.ref no l.length 0 l.length (some 12))) :: (cl, 0, flat (avI .i64) (j5 f f.Locals.length f.Locals.length)) :: (no, l.length, flat b8.av l) :: (ini, np, flat (avI .i64) ((j5 f f.Locals.length f.Locals.length).take np)) :: (ki, 17, flat (avI .u8) (f.Locals ++ j3 16)) :: (pa, np, flat (avI .i64) ((List.range np).map fun (j : Nat) => (j : Int))) :: (o8, 0, [.nils, .nils, .int .i64 0, .nils, .bool false, .int .i64 0, .nils, .int .i64 0]) :: ([] ++ R)) (fun _ => True) ?_ (fun _ S _ hS => ?_)
  ·refine c7 ?_
   refine a8 ?_
   refine aU ?_
   unfold ndK at a2
   rw [hrk, Option.bind_some] at a2
   by_cases hb : rd[k] = true
   ·rw [if_pos hb] at a2
    obtain ⟨s, b1, a2⟩ := Option.bind_eq_some_iff.1 a2
    obtain ⟨i, b2, a2⟩ := Option.bind_eq_some_iff.1 a2
    obtain ⟨n0, b3, rfl⟩ := Option.map_eq_some_iff.1 a2
    obtain ⟨c1, c2⟩ := hst s (List.mem_of_getElem? b1)
    refine E_cs (t := true) (by show AV.bool rd[k] = _; rw [hb]) (fun _ => ?_) (fun h => by cases h)
    refine aU ?_
    refine g8 (esh := none) (f := avL 1 (avI .u8)) (ys := st) (y := s) (n := (k : Int)) rfl rfl (by unfold j9; rw [if_pos zO]; exact b1) ?_
    refine aU ?_
    have hB : NB p f cl (bC p f (.ref cl 0 0 f.Locals.length none) (.ref pa np 0 np none) (.ref ki 17 0 (f.Locals.length + 32) none) (a0s f f.Locals.length) (.ref ini np 0 np none) f.Result (kp) (.ref no l.length 0 l.length (some 12))) (j5 f f.Locals.length f.Locals.length) s (k : Int) := ⟨rfl, rfl, by show some (AV.ref cl 0 0 f.Locals.length none) = _; rw [show (j5 f f.Locals.length f.Locals.length).length = f.Locals.length by simp [j5]], by omega, by omega, c2, by omega, by omega⟩
    refine a2S (b2w (b := b) (cl := cl) hB hlk b2 b3) hS rfl (Spl.cons (Pk.there Pk.here) (Spl.cons (Pk.there Pk.here) Spl.nil)) (fun x S L' hL hS => ?_)
    obtain ⟨rfl, rfl⟩ := hL
    refine E_stS hS rfl (xv := b8.av { n0 with Next := o9 f (k : Int) i }) rfl (Rp.there (Rp.there Rp.here)) rfl rfl zqV (fun S hS => ?_)
    refine aU ?_
    exact s7 ⟨(), trivial, hS.perm (Spl.cons (Pk.there (Pk.there Pk.here)) (Spl.cons Pk.here (Spl.cons Pk.here (Spl.cons Pk.here (Spl.cons Pk.here (Spl.cons Pk.here (Spl.cons Pk.here (Spl.cons Pk.here (.refl _))))))))), wF⟩
   ·rw [if_neg hb] at a2; cases a2
    refine E_cs (t := false) (by show AV.bool rd[k] = _; simpa using hb) (fun h => by cases h) (fun _ => ?_)
    refine aU ?_
    exact s7 ⟨(), trivial, hS, wF⟩
  ·refine s4 ?_
   refine aU ?_
   refine b7 hS rfl (.tail _ (.head _)) (v := .ref no l.length 0 l.length (some 12)) rfl ?_
   refine aU ?_
   refine b7 hS rfl (.head _) (v := b8.av nd) rfl ?_
   refine aU ?_
   refine a3m (o := no) (ver := l.length) (f := b8.av) (l := l) (m := [nd]) (j := []) hS b8.enc rfl (u3 (f := b8.av) (esh := some 12) [nd]) (Rp.there (Rp.there (Rp.there (by rw [List.append_nil]; exact Rp.here)))) ⟨by simp; omega, by simp; omega⟩ (fun S hS => ?_)
   refine aU ?_
   refine E_stS hS rfl (xv := .ref no (l.length + 1) 0 (l.length + 1) (some 12)) (by show AV.ref no (l.length + 1) 0 (l ++ [nd]).length (some 12) = _; simp) (Rp.there Rp.here) rfl rfl zqV (fun S hS => ?_)
   refine a7 ?_
   refine And.intro (by simp [u7, a1u, r5, y8]) ?_
   refine aE ?_
   have el : (l ++ [nd]).length = l.length + 1 := by simp
   exact R_n (l ++ [nd]) a3 (by rw [el]; exact hS.sub (List.sublist_cons_self _ _)) wF
 ·rw [h1] at hI; cases hI
  refine a4W (F := [(1, .cptr (Func.cells f) 0), (2, .sl false 1 (rd.map avB)), (3, .sl false 1 (st.map (avL 1 (avI .u8)))), (8, .ptr o8 0 0), (9, .ptr b 0 0)]) (v4 hw wF) ?_
  have hcn : (j5 f f.Locals.length f.Locals.length).length = f.Locals.length := by simp [j5]
  refine a8D (o := pa) (ver := np) (o2 := b) (v2 := 0) (jx := 3) (l := ((List.range np).map fun (j : Nat) => (j : Int))) (cs2 := bC p f (.ref cl 0 0 f.Locals.length none) (.ref pa np 0 np none) (.ref ki 17 0 (f.Locals.length + 32) none) (a0s f f.Locals.length) (.ref ini np 0 np none) f.Result (kp) (.ref no nds.length 0 nds.length (some 12))) (d8 .i64) hS (Pk.there (Pk.there (Pk.there (Pk.there (Pk.there Pk.here))))) (by show some (AV.ref pa np 0 np none) = _; simp) Rp.here (fun S hS => ?_)
  refine a8D (o := ki) (ver := 17) (o2 := b) (v2 := 0) (jx := 4) (l := (f.Locals ++ j3 16)) (cs2 := bC p f (.ref cl 0 0 f.Locals.length none) (.sl false (d9 none) (List.map (avI .i64) ((List.range np).map fun (j : Nat) => (j : Int)))) (.ref ki 17 0 (f.Locals.length + 32) none) (a0s f f.Locals.length) (.ref ini np 0 np none) f.Result (kp) (.ref no nds.length 0 nds.length (some 12))) (d8 .u8) hS (Pk.there (Pk.there (Pk.there (Pk.there Pk.here)))) (by show some (AV.ref ki 17 0 (f.Locals.length + 32) none) = _; rw [List.length_append, r9]) Rp.here (fun S hS => ?_)
  refine a8D (o := ini) (ver := np) (o2 := b) (v2 := 0) (jx := 6) (l := ((j5 f f.Locals.length f.Locals.length).take np)) (cs2 := bC p f (.ref cl 0 0 f.Locals.length none) (.sl false (d9 none) (List.map (avI .i64) ((List.range np).map fun (j : Nat) => (j : Int)))) (.sl false (d9 none) (List.map (avI .u8) (f.Locals ++ j3 16))) (a0s f f.Locals.length) (.ref ini np 0 np none) f.Result (kp) (.ref no nds.length 0 nds.length (some 12))) (d8 .i64) hS (Pk.there (Pk.there (Pk.there Pk.here))) (by show some (AV.ref ini np 0 np none) = _; rw [List.length_take, hcn, Nat.min_eq_left zO]) Rp.here (fun S hS => ?_)
  refine a8C (o := no) (ver := nds.length) (o2 := b) (v2 := 0) (jx := 9) (l := nds) (cs2 := bC p f (.ref cl 0 0 f.Locals.length none) (.sl false (d9 none) (List.map (avI .i64) ((List.range np).map fun (j : Nat) => (j : Int)))) (.sl false (d9 none) (List.map (avI .u8) (f.Locals ++ j3 16))) (a0s f f.Locals.length) (.sl false (d9 none) (List.map (avI .i64) ((j5 f f.Locals.length f.Locals.length).take np))) f.Result (kp) (.ref no nds.length 0 nds.length (some 12))) b8.enc hS (Pk.there (Pk.there Pk.here)) rfl Rp.here (fun S hS => ?_)
  refine aU ?_
  refine b7 hS rfl (.head _) (v := a9.av ⟨((List.range np).map fun (j : Nat) => (j : Int)), (f.Locals ++ j3 16), a0s f f.Locals.length, ((j5 f f.Locals.length f.Locals.length).take np), f.Result, kp, nds, 0⟩) rfl ?_
  refine aU ?_
  refine E_stS hS rfl (xv := a9.av ⟨((List.range np).map fun (j : Nat) => (j : Int)), (f.Locals ++ j3 16), a0s f f.Locals.length, ((j5 f f.Locals.length f.Locals.length).take np), f.Result, kp, nds, 0⟩) rfl (Rp.there (Rp.there Rp.here)) rfl rfl zqV (fun S hS => ?_)
  refine aU ?_
  refine f7 ?_
  refine aE ?_
  exact ⟨trivial, _, f6 rfl (hS.at (.tail _ (.tail _ (.head _)))) rfl, [], ⟨rfl, rfl⟩, hS.sub (.cons _ (.cons _ (.cons _ (List.Sublist.refl _))))⟩
end
end Go.Proofs.Ytnpemocpfdgaoaa

/- build.Build: the walk. -/
namespace Go.Proofs.Ytnpemocpfdgaoaa
open Go Go.Ab
set_option maxRecDepth 20000
set_option maxHeartbeats 2000000
def c3g : FC := .reg [⟨(some 1), none, .op (.box (.t 0))⟩,  ⟨(some 2), none, .op (.new [.nils])⟩,  ⟨(some 3), none, .op (.mv (.v (.int .i64 0)))⟩] []
def c3h : FC := .reg [⟨(some 9), none, .op (.load (some 1) (.t 1))⟩,  ⟨(some 10), none, .call 28 [(.t 9)]⟩,  ⟨(some 8), none, .op (.mv (.t 10))⟩,  ⟨(some 11), none, .op (.ext 0 (.t 8))⟩,  ⟨(some 12), none, .op (.ext 1 (.t 8))⟩,  ⟨(some 4), none, .op (.mv (.t 11))⟩,  ⟨(some 5), none, .op (.mv (.t 12))⟩] []
def c3i : FC := .reg [⟨(some 13), none, .op (.mv (.t 5))⟩,  ⟨(some 14), none, .op (.bin .none .neq (.t 13) (.v (.int .i64 0)))⟩] []
def c3j : FC := .reg [⟨(some 15), none, .op (.build [.nils] [])⟩,  ⟨(some 16), none, .op (.mv (.t 5))⟩,  ⟨none, none, .op (.store 1 (.t 2) (.t 15))⟩,  ⟨(some 3), none, .op (.mv (.t 16))⟩] []
def c3k : FC := .seq c3j FC.ret
def c3l : FC := .cond (.t 14) c3k FC.skip
def c3m : FC := .seq c3i c3l
def c3n : FC := .reg [⟨(some 6), none, .op (.new [.nils])⟩] []
def c3o : FC := .reg [⟨(some 17), none, .op (.fad 0 (.t 1))⟩,  ⟨(some 18), none, .op (.load none (.t 17))⟩,  ⟨(some 19), none, .op (.len .sl (.t 18))⟩,  ⟨(some 20), none, .op (.mv (.v (.int .i64 0)))⟩] []
def b9o : FC := .reg [⟨(some 22), none, .op (.mv (.t 20))⟩,  ⟨(some 7), none, .op (.mv (.t 22))⟩] []
def b9p : FC := .reg [⟨(some 23), none, .op (.fad 0 (.t 6))⟩,  ⟨(some 24), none, .op (.load none (.t 23))⟩,  ⟨(some 25), none, .op (.fad 0 (.t 1))⟩,  ⟨(some 26), none, .op (.load none (.t 25))⟩,  ⟨(some 27), none, .op (.mv (.t 7))⟩,  ⟨(some 28), none, .op (.iad none (some 5) (.t 26) (.t 27))⟩,  ⟨(some 29), none, .op (.mv (.t 4))⟩,  ⟨(some 30), none, .op (.nchk (.t 29))⟩,  ⟨(some 31), none, .op (.fad 0 (.t 30))⟩,  ⟨(some 32), none, .op (.load none (.t 31))⟩,  ⟨(some 33), none, .op (.mv (.t 7))⟩,  ⟨(some 34), none, .op (.iad none none (.t 32) (.t 33))⟩,  ⟨(some 35), none, .op (.load none (.t 34))⟩,  ⟨(some 36), none, .op (.mv (.t 4))⟩,  ⟨(some 37), none, .op (.nchk (.t 36))⟩,  ⟨(some 38), none, .op (.fad 1 (.t 37))⟩,  ⟨(some 39), none, .op (.load none (.t 38))⟩,  ⟨(some 40), none, .op (.mv (.t 7))⟩,  ⟨(some 41), none, .op (.iad none none (.t 39) (.t 40))⟩,  ⟨(some 42), none, .op (.load none (.t 41))⟩,  ⟨(some 43), none, .call 29 [(.t 1), (.t 28), (.t 35), (.t 42)]⟩,  ⟨(some 44), none, .op (.bsl (some 8) [.nils, .nils, (.int .i64 0), .nils, (.bool false), (.int .i64 0), .nils, (.int .i64 0)] 1 [(0, 8, (.t 43))])⟩,  ⟨(some 45), none, .op (.app (some 8) 128 (.t 24) (.t 44))⟩,  ⟨(some 46), none, .op (.fad 0 (.t 6))⟩,  ⟨none, none, .op (.store 1 (.t 46) (.t 45))⟩] [(1, 20), (1, 21)]
def b9q : FC := .seq b9o b9p
def b9r : FC := .loop (.seq (.reg [⟨(some 21), none, .op (.bin .none .lss (.t 20) (.t 19))⟩] []) (.seq (.cond (.t 21) .skip (.exit 0)) (.seq (.block 1 b9q) (.reg [⟨(some 47), none, .op (.bin .none .add (.t 20) (.v (.int .i64 1)))⟩,  ⟨(some 20), none, .op (.mv (.t 47))⟩] []))))
def b9s : FC := .block 0 b9r
def b9t : FC := .seq c3o b9s
def b9u : FC := .reg [⟨(some 48), none, .op (.load (some 1) (.t 6))⟩,  ⟨none, none, .op (.store 1 (.t 2) (.t 48))⟩,  ⟨(some 3), none, .op (.mv (.v (.int .i64 0)))⟩] []
def b9v : FC := .seq b9u FC.ret
def b9w : FC := .seq b9t b9v
def b9x : FC := .seq c3n b9w
def b9y : FC := .seq c3m b9x
def b9z : FC := .seq c3h b9y
def b9A : FC := .seq c3g b9z
def c7I : FC := b9A
theorem c3p : Fn3 Try.prog 13 49 [(2, (some (some 1))), (3, none)] c7I := ⟨_, _, Try.func13, rfl, rfl, rfl, by kernel_rfl⟩

theorem a4X {S : List Ob} {F : Fm} {t o ver n t2 : Nat} {cs : List AV} {v2 : AV} (h : F t = .ptr o ver 0) (ho : hp S o = .arr ver cs) (hn : cs.length = n) (h2 : F t2 = v2) : a1T S F [(t, some (some n)), (t2, none)] = some (.tup [.agg cs, v2]) := by
 simp [a1T, a6k, b3L, a6U, v9, h, ho, w9, <- hn, h2]
def gsS (p : Program) (ty : a0r) : Nat -> Option (List a9)
 | 0 => some []
 | k + 1 => (gsS p ty k).bind fun l => (p.Funcs[k]?).bind fun f => (ty.Reached[k]?).bind fun rd => (ty.Stacks[k]?).bind fun st => (a4V p f rd st).map fun g => l ++ [g]
theorem a2G {p : Program} {ty : a0r} : ∀ {k : Nat} {l : List a9}, gsS p ty k = some l -> l.length = k /\ ∀ j, j < k -> ∃ l1 f rd st g, gsS p ty j = some l1 /\ p.Funcs[j]? = some f /\ ty.Reached[j]? = some rd /\ ty.Stacks[j]? = some st /\ a4V p f rd st = some g /\ gsS p ty (j + 1) = some (l1 ++ [g])
 | 0, l, h => by cases h; exact ⟨rfl, fun j hj => absurd hj zO⟩
 | k + 1, l, h => by
   have h0 := h
   unfold gsS at h
   obtain ⟨l1, h1, h⟩ := Option.bind_eq_some_iff.1 h
   obtain ⟨f, h2, h⟩ := Option.bind_eq_some_iff.1 h
   obtain ⟨rd, h3, h⟩ := Option.bind_eq_some_iff.1 h
   obtain ⟨st, h4, h⟩ := Option.bind_eq_some_iff.1 h
   obtain ⟨g, h5, rfl⟩ := Option.map_eq_some_iff.1 h
   obtain ⟨a, b⟩ := a2G h1
   refine ⟨by simp [a], fun j hj => ?_⟩
   by_cases hjk : j = k
   ·subst hjk; exact ⟨l1, f, rd, st, g, h1, h2, h3, h4, h5, h0⟩
   ·exact b j zO
section
variable {p : Program}
theorem a9g {o : Option a0r} {e : Int} (hk : r7 1048577 p = some (o, e)) (he : e ≠ 0) : Tri Try.prog 13 [Program.av p] [] (fun x L' => x = .tup [c9.av ⟨[]⟩, .int .i64 e] /\ L' = []) := by
 refine Tri.weakr (r0 := .tup [.agg [.nils], .int .i64 e]) ?_ (.tup rfl fun j h1 h2 => ?_)
 ·refine j7 mixed c3p zS [1, 2, 6] (fun R S hS => ?_)
  refine aU ?_
  refine a3J hS rfl (xv := Program.av p) rfl rfl (fun pb S hS => ?_)
  refine aU ?_
  refine z7 hS rfl (fun o2 S hS => ?_)
  refine aS ?_
  refine a7 ?_
  refine b2t 1 hS (Pk.there Pk.here) (by exact Program.enc.blw p 0) rfl (fun S hS => ?_)
  refine aU ?_
  refine a0x (a1z hk) rfl (f9 ⟨Program.enc.blw p 0, trivial⟩) (a0i ⟨(by cases o with | none => rfl | some x => exact m6 (a0r.enc.blw x 0)), rfl, trivial⟩) ?_
  refine aU ?_
  refine E_cs (t := true) (by show AV.bool (e != 0) = _; simp [he]) (fun _ => ?_) (fun h => by cases h)
  refine aU ?_
  refine E_stS hS rfl (xv := .agg [.nils]) rfl Rp.here rfl rfl zqV (fun S hS => ?_)
  refine aU ?_
  refine f7 ?_
  refine aE ?_
  exact ⟨trivial, _, a4X rfl (hS.at (.head _)) rfl rfl, [], ⟨rfl, rfl⟩, hS.sub (List.sublist_cons_self _ _)⟩
 ·match j, h1 with
  | 0, _ =>
    refine .agg rfl fun j h1 h2 => ?_
    match j, h1 with
    | 0, _ => exact .nil
  | 1, _ => exact .refl _
theorem b0Q {ty : a0r} {gs : List a9} (hk : r7 1048577 p = some (some ty, 0)) (hb : ∀ f ∈ p.Funcs, f.Locals.length < 1000 /\ f.Code.length < 100000 /\ (0 <= f.Params /\ f.Params <= f.Locals.length) /\ f.Keep < f.Locals.length /\ ∀ k ∈ f.Locals, 0 <= k /\ k < 256) (hn : p.Funcs.length < 100000) (hrd : ∀ rd ∈ ty.Reached, rd.length < 100000) (hst : ∀ st ∈ ty.Stacks, ∀ s ∈ st, s.length < 100000 /\ ∀ k ∈ s, 0 <= k /\ k < 256) (hg : gsS p ty p.Funcs.length = some gs) :
  Tri Try.prog 13 [Program.av p] [] (fun x L' => x = .tup [c9.av ⟨gs⟩, .int .i64 0] /\ L' = []) := by
 refine j7 mixed c3p zS [1, 2, 6] (fun R S hS => ?_)
 refine aU ?_
 refine a3J hS rfl (xv := Program.av p) rfl rfl (fun pb S hS => ?_)
 refine aU ?_
 refine z7 hS rfl (fun o2 S hS => ?_)
 refine aS ?_
 refine a7 ?_
 refine b2t 1 hS (Pk.there Pk.here) (by exact Program.enc.blw p 0) rfl (fun S hS => ?_)
 refine aU ?_
 refine a0x (a1z hk) rfl (f9 ⟨Program.enc.blw p 0, trivial⟩) (a0i ⟨m6 (a0r.enc.blw ty 0), rfl, trivial⟩) ?_
 refine aU ?_
 refine E_cs (t := false) rfl (fun h => by cases h) (fun _ => ?_)
 refine g5 ?_
 refine d7 ?_
 refine aQ ?_
 refine aS ?_
 refine z7 hS rfl (fun o6 S hS => ?_)
 refine a7 ?_
 refine a9d 0 (some 8) (Lf := fun o' => (o6, 0, [.ref o' 0 0 0 (some 8)]) :: (o2, 0, [.nils]) :: ([] ++ R)) hS (fun o' => Rp.here) rfl (fun gl S hS => ?_)
 refine c7 ?_
 refine c7 ?_
 refine a8 ?_
 refine aU ?_
 refine a1i p.Funcs.length (fun _ : List a9 => [(1, .cptr (Program.cells p) 0), (2, .ptr o2 0 0), (4, .cptr (a0r.cells ty) 0), (6, .ptr o6 0 0)]) (fun l => (gl, l.length, flat a9.av l) :: (o6, 0, [.ref gl l.length 0 l.length (some 8)]) :: (o2, 0, [.nils]) :: ([] ++ R)) (fun k l => gsS p ty k = some l) [] hS rfl wF zO zD zD (fun _ => ⟨rfl, rfl, rfl, rfl⟩) (fun k l S hi hI hS => ?_) (fun l fr' S hI hS hw => ?_)
 ·obtain ⟨hlen, _⟩ := a2G hI
  obtain ⟨_, hall⟩ := a2G hg
  obtain ⟨l1, f, rd, st, g, a1, a2, a3, a4, a5, a6⟩ := hall k hi
  rw [hI] at a1; cases a1
  obtain ⟨b1, b2, b3, b4, b5⟩ := hb f (List.mem_of_getElem? a2)
  refine aU ?_
  refine s4 ?_
  refine aU ?_
  refine b7 hS rfl (.tail _ (.head _)) (v := .ref gl l.length 0 l.length (some 8)) rfl ?_
  refine aU ?_
  refine g8 (esh := some 5) (f := Func.av) (ys := p.Funcs) (y := f) (n := (k : Int)) rfl rfl (by unfold j9; rw [if_pos zO]; exact a2) ?_
  refine aU ?_
  refine g8 (esh := none) (f := avL 1 avB) (ys := ty.Reached) (y := rd) (n := (k : Int)) rfl rfl (by unfold j9; rw [if_pos zO]; exact a3) ?_
  refine aU ?_
  refine g8 (esh := none) (f := avL 1 (avL 1 (avI .u8))) (ys := ty.Stacks) (y := st) (n := (k : Int)) rfl rfl (by unfold j9; rw [if_pos zO]; exact a4) ?_
  refine aU ?_
  have hm1 := hS.at (.tail _ (.head _))
  refine a2S (b0P b1 b2 b3 b4 b5 (hrd rd (List.mem_of_getElem? a3)) (hst st (List.mem_of_getElem? a4)) a5) hS rfl Spl.nil (fun x S L' hL hS => ?_)
  obtain ⟨rfl, rfl⟩ := hL
  have hm2 := hS.at (.tail _ (.head _))
  refine aU ?_
  refine a3m (o := gl) (ver := l.length) (f := a9.av) (l := l) (m := [g]) (j := []) hS a9.enc rfl (u3 (f := a9.av) (esh := some 8) [g]) (by rw [List.append_nil]; exact Rp.here) ⟨by simp; omega, by simp; omega⟩ (fun S hS => ?_)
  refine aU ?_
  refine E_stS hS rfl (xv := .ref gl (l.length + 1) 0 (l.length + 1) (some 8)) (by show AV.ref gl (l.length + 1) 0 (l ++ [g]).length (some 8) = _; simp) (Rp.there Rp.here) rfl rfl zqV (fun S hS => ?_)
  refine a7 ?_
  refine And.intro ⟨⟨rfl, fun x hx => by rw [List.mem_singleton.1 hx]; exact hm2.trans hm1.symm⟩, by simp [u7, a1u, r5, y8]⟩ ?_
  refine aE ?_
  have el : (l ++ [g]).length = l.length + 1 := by simp
  exact R_n (l ++ [g]) a6 (by rw [el]; exact hS) wF
 ·rw [hg] at hI; cases hI
  refine a4W (F := [(2, .ptr o2 0 0), (6, .ptr o6 0 0)]) (v4 hw wF) ?_
  refine a8C (o := gl) (ver := gs.length) (o2 := o6) (v2 := 0) (jx := 0) (l := gs) (cs2 := [.ref gl gs.length 0 gs.length (some 8)]) a9.enc hS Pk.here rfl Rp.here (fun S hS => ?_)
  refine aU ?_
  refine b7 hS rfl (.head _) (v := c9.av ⟨gs⟩) rfl ?_
  refine aU ?_
  refine E_stS hS rfl (xv := c9.av ⟨gs⟩) rfl (Rp.there Rp.here) rfl rfl zqV (fun S hS => ?_)
  refine aU ?_
  refine f7 ?_
  refine aE ?_
  exact ⟨trivial, _, a4X rfl (hS.at (.tail _ (.head _))) rfl rfl, [], ⟨rfl, rfl⟩, hS.sub (.cons _ (.cons _ (List.Sublist.refl _)))⟩
end
end Go.Proofs.Ytnpemocpfdgaoaa

/- ref8's push: the walk. -/
namespace Go.Proofs.Ytnpemocpfdgaoaa
open Go Go.Ab
set_option maxRecDepth 20000
set_option maxHeartbeats 2000000
noncomputable def c7J : FC := fcO 47
theorem c7K : Fn3 Try.prog 47 103 [] c7J := ⟨_, _, Try.func47, rfl, rfl, rfl, by kernel_rfl⟩

def b9B (g : a9) (ag : List Int) : Nat -> List Int -> F8 -> Option F8
 | _, [], z => some z
 | i, k :: ks, z => (ag[i]?).bind fun a => (z.set k a).bind fun z => (g.Init[i]?).bind fun c => if 0 <= c then (if c.toNat < z.ce.length then b9B g ag (i + 1) ks { z with ce := z.ce.set c.toNat a } else none) else b9B g ag (i + 1) ks z
def b0R (gs : List a9) (f : Int) (ag : List Int) (why : Int) : Option F8 := (j9 gs f).bind fun g => if 0 <= g.Cells then b9B g ag 0 g.Params ⟨f, g.Entry, why, List.replicate g.Kinds.length 0, List.replicate g.Cells.toNat 0, [], false, 0, none⟩ else none
def okG (g : a9) : Prop := g.Kinds.length < 1000000 /\ g.Cells < 1000000 /\ g.Params.length < 1000000 /\ ∀ n ∈ g.Nodes, n.Args.length < 100000000
section
variable {gs : List a9} {o : O8} {s : S8} {z : Q8} {r : List Q8} {rj pj : List AV}
theorem c3q {k : Nat} {v : Int} {R : List It} : Rp (L8 gs o s (z :: r) rj pj ++ R) (z.cl, 0, flat (avI .u64) z.ce) (z.cl, 0, flat (avI .u64) (z.ce.set k v)) (L8 gs o s ({ z with ce := z.ce.set k v } :: r) rj pj ++ R) := by
 have e : L8 gs o s ({ z with ce := z.ce.set k v } :: r) rj pj = (o.r, 0, h8 gs o s (r.length + 1)) :: (o.ro, o.rv, rC (z :: r) ++ rj) :: (x8 o s pj ++ ((z.pl, 0, flat (avI .u64) z.lo) :: (z.cl, 0, flat (avI .u64) (z.ce.set k v)) :: (z.wl, z.wv, flat a7g.av z.wa.reverse ++ z.wj) :: r.flatMap o8)) := by
  unfold L8
  rw [u1, u1]
  show _ :: (o.ro, o.rv, rC r ++ ([.int .i64 z.f, .int .i64 z.pc, .int .i64 z.why, _, .ref z.cl 0 0 (z.ce.set k v).length none, _, _, _, _] ++ rj)) :: _ = _
  rw [List.length_set]; rfl
 rw [e]
 exact Rp.there (Rp.there (Rp.there (Rp.there (Rp.there (Rp.there Rp.here)))))
theorem a7j {f why : Int} {ag : List Int} {F : F8} {av : AV} (hav : av = .sl false 1 (ag.map (avI .u64)) \/ (ag = [] /\ av = .nils)) (hv : b0R gs f ag why = some F) (hok : ∀ g ∈ gs, okG g) (hn : r.length < 10000000) (hd : 0 <= s.depth /\ s.depth < 1000000000) :
  Tri Try.prog 47 [.ptr o.r 0 0, .int .i64 f, av, .int .i64 why] (L8 gs o s r rj pj)
   (fun _ L' => ∃ z : Q8, z.toF8 = F /\ L' = L8 gs { o with rv := o.rv + 1 } { s with depth := max s.depth ((r.length : Int) + 1) } (z :: r) [] pj) := by
 unfold b0R at hv
 obtain ⟨g, hg, hv⟩ := Option.bind_eq_some_iff.1 hv
 split at hv
 case isFalse => cases hv
 rename_i hC
 obtain ⟨l1, l2, l3, l4⟩ := hok g (List.mem_of_getElem? (g9 hg).2.2)
 refine j7 mixed c7K zS [8, 31, 34] (fun R S hS => ?_)
 refine aU ?_
 refine b7 hS rfl (.head _) (v := .sl false 8 (List.map a9.av gs)) rfl ?_
 refine aU ?_
 refine g8 (esh := some 8) (f := a9.av) (ys := gs) (y := g) rfl rfl hg ?_
 refine aU ?_
 refine z7 hS rfl (fun og S hS => ?_)
 refine E_stS hS rfl (xv := g.av) rfl Rp.here rfl rfl zqV (fun S hS => ?_)
 have hgr : o.r ≠ og := fun e => (List.nodup_cons.1 hS.2).1 (by rw [<- e]; exact List.mem_map.2 ⟨_, .head _, rfl⟩)
 refine a7 ?_
 refine d7 ?_
 refine c7 ?_
 refine s4 ?_
 refine aU ?_
 refine b7 hS rfl (.tail _ (.head _)) (v := .ref o.ro o.rv 0 r.length (some 9)) rfl ?_
 refine aU ?_
 refine b7 hS rfl (.head _) (v := .int .i64 g.Entry) rfl ?_
 refine aU ?_
 refine b7 hS rfl (.head _) (v := .sl false 1 (List.map (avI .u8) g.Kinds)) rfl ?_
 refine aU ?_
 refine b2o (f := avI .u64) (x := (0 : Int)) (n := g.Kinds.length) (n' := g.Kinds.length) hS (d8 .u64) rfl rfl rfl rfl zO (fun l S hS => ?_)
 have hlg : og ≠ l := fun e => (List.nodup_cons.1 hS.2).1 (by rw [<- e]; exact List.mem_map.2 ⟨_, .head _, rfl⟩)
 have hlr : o.r ≠ l := fun e => (List.nodup_cons.1 hS.2).1 (by rw [<- e]; exact List.mem_map.2 ⟨_, .tail _ (.head _), rfl⟩)
 refine aU ?_
 refine b7 hS rfl (.tail _ (.head _)) (v := .int .i64 g.Cells) rfl ?_
 refine aU ?_
 refine b2o (f := avI .u64) (x := (0 : Int)) (n := g.Cells) (n' := g.Cells) hS (d8 .u64) rfl rfl rfl rfl zO (fun t S hS => ?_)
 have htl : l ≠ t := fun e => (List.nodup_cons.1 hS.2).1 (by rw [<- e]; exact List.mem_map.2 ⟨_, .head _, rfl⟩)
 have htg : og ≠ t := fun e => (List.nodup_cons.1 hS.2).1 (by rw [<- e]; exact List.mem_map.2 ⟨_, .tail _ (.head _), rfl⟩)
 have htr : o.r ≠ t := fun e => (List.nodup_cons.1 hS.2).1 (by rw [<- e]; exact List.mem_map.2 ⟨_, .tail _ (.tail _ (.head _)), rfl⟩)
 refine aU ?_
 refine b4a (o := o.ro) (ver := o.rv) (n := r.length) (m := 1) (cs := rC r) (j := rj) (ys := [.int .i64 f, .int .i64 g.Entry, .int .i64 why, .ref l 0 0 g.Kinds.length none, .ref t 0 0 g.Cells.toNat none, .nils, .bool false, .int .u64 0, .nils]) hS rfl (rdx := []) rfl (Rp.there (Rp.there (Rp.there (Rp.there Rp.here)))) (by rw [z4]; simp [d9]) rfl zO (fun S hS => ?_)
 refine aU ?_
 refine E_stS hS rfl (xv := .ref o.ro (o.rv + 1) 0 (r.length + 1) (some 9)) rfl (Rp.there (Rp.there (Rp.there Rp.here))) rfl rfl zqV (fun S hS => ?_)
 refine a7 ?_
 refine And.intro (by simp [u7, a1u, r5, y8, hgr, hlg, hlr, htl, htg, htr, Ne.symm hgr, Ne.symm hlg, Ne.symm hlr, Ne.symm htl, Ne.symm htg, Ne.symm htr]) ?_
 have hS1 : Ab.Sep S ((t, 0, flat (avI .u64) (List.replicate g.Cells.toNat 0)) :: (l, 0, flat (avI .u64) (List.replicate (g.Kinds.length : Int).toNat 0)) :: (og, 0, g.cells) :: (o.r, 0, h8 gs { o with rv := o.rv + 1 } s (r.length + 1)) :: (o.ro, o.rv + 1, rC r ++ ([.int .i64 f, .int .i64 g.Entry, .int .i64 why, .ref l 0 0 g.Kinds.length none, .ref t 0 0 g.Cells.toNat none, .nils, .bool false, .int .u64 0, .nils] ++ [])) :: (x8 o s pj ++ r.flatMap o8 ++ R)) := by rw [List.append_nil]; exact hS
 refine a9d (o := o.ro) (ver := o.rv + 1) (cs := rC r ++ ([.int .i64 f, .int .i64 g.Entry, .int .i64 why, .ref l 0 0 g.Kinds.length none, .ref t 0 0 g.Cells.toNat none, .nils, .bool false, .int .u64 0, .nils] ++ [])) (r.length * 9 + 5) (some 2) (Lf := fun w => (t, 0, flat (avI .u64) (List.replicate g.Cells.toNat 0)) :: (l, 0, flat (avI .u64) (List.replicate (g.Kinds.length : Int).toNat 0)) :: (og, 0, g.cells) :: (o.r, 0, h8 gs { o with rv := o.rv + 1 } s (r.length + 1)) :: (o.ro, o.rv + 1, rC r ++ ([.int .i64 f, .int .i64 g.Entry, .int .i64 why, .ref l 0 0 g.Kinds.length none, .ref t 0 0 g.Cells.toNat none, .ref w 0 0 0 (some 2), .bool false, .int .u64 0, .nils] ++ [])) :: (x8 o s pj ++ r.flatMap o8 ++ R))
  hS1 (fun w => ?_) (by rw [List.getElem?_append_right (by rw [z4]; omega), z4, Nat.add_sub_cancel_left]; rfl) (fun w S hS => ?_)
 ·rw [<- z4 r, c7j zS]
  exact Rp.there (Rp.there (Rp.there (Rp.there Rp.here)))
 have hS0 : Ab.Sep S ((og, 0, g.cells) :: (L8 gs { o with rv := o.rv + 1 } s (⟨⟨f, g.Entry, why, List.replicate g.Kinds.length 0, List.replicate g.Cells.toNat 0, [], false, 0, none⟩, l, t, w, 0, []⟩ :: r) [] pj ++ R)) := by
  have e : L8 gs { o with rv := o.rv + 1 } s (⟨⟨f, g.Entry, why, List.replicate g.Kinds.length 0, List.replicate g.Cells.toNat 0, [], false, 0, none⟩, l, t, w, 0, []⟩ :: r) [] pj = (o.r, 0, h8 gs { o with rv := o.rv + 1 } s (r.length + 1)) :: (o.ro, o.rv + 1, rC r ++ ([.int .i64 f, .int .i64 g.Entry, .int .i64 why, .ref l 0 0 g.Kinds.length none, .ref t 0 0 g.Cells.toNat none, .ref w 0 0 0 (some 2), .bool false, .int .u64 0, .nils] ++ [])) :: (x8 o s pj ++ ((l, 0, flat (avI .u64) (List.replicate g.Kinds.length 0)) :: (t, 0, flat (avI .u64) (List.replicate g.Cells.toNat 0)) :: (w, 0, []) :: r.flatMap o8)) := by
   unfold L8
   rw [u1]
   show _ :: (_, _, rC r ++ ([.int .i64 f, .int .i64 g.Entry, .int .i64 why, .ref l 0 0 (List.replicate g.Kinds.length (0 : Int)).length none, .ref t 0 0 (List.replicate g.Cells.toNat (0 : Int)).length none, _, _, _, _] ++ [])) :: _ = _
   rw [List.length_replicate, List.length_replicate]; rfl
  rw [e]
  refine hS.perm ?_
  have hp : ∀ (aw at_ al ag ar ao : It) (X Y : List It), List.Perm (aw :: at_ :: al :: ag :: ar :: ao :: (X ++ Y ++ R)) (ag :: ar :: ao :: (X ++ (al :: at_ :: aw :: Y) ++ R)) := fun aw at_ al ag ar ao X Y => by
   have h1 : List.Perm (aw :: at_ :: al :: ag :: ar :: ao :: (X ++ Y ++ R)) ([ag, ar, ao] ++ ([al, at_, aw] ++ (X ++ (Y ++ R)))) := by
    rw [List.append_assoc]
    exact Spl.cons (Pk.there (Pk.there (Pk.there Pk.here))) (Spl.cons (Pk.there (Pk.there (Pk.there Pk.here))) (Spl.cons (Pk.there (Pk.there (Pk.there Pk.here))) (Spl.cons (Pk.there (Pk.there Pk.here)) (Spl.cons (Pk.there Pk.here) (Spl.cons Pk.here (.refl _))))))
   refine h1.trans ?_
   simp only [List.cons_append, List.nil_append, List.append_assoc]
   refine List.Perm.cons _ (List.Perm.cons _ (List.Perm.cons _ ?_))
   have h2 : List.Perm ([al, at_, aw] ++ (X ++ (Y ++ R))) (X ++ ([al, at_, aw] ++ (Y ++ R))) := by
    rw [<- List.append_assoc, <- List.append_assoc X]
    exact List.Perm.append_right _ List.perm_append_comm
   exact h2
  exact hp _ _ _ _ _ _ (x8 o s pj) (r.flatMap o8)
 clear hS
 refine aU ?_
 refine b7 hS0 rfl (.tail _ (.head _)) (v := .ref o.ro (o.rv + 1) 0 (r.length + 1) (some 9)) rfl ?_
 refine aU ?_
 refine b7 hS0 rfl (.tail _ (.head _)) (v := .int .i64 s.depth) rfl ?_
 refine aU ?_
 refine a7S (σ := Unit) (fun _ => [(0, .ptr o.r 0 0), (2, av), (8, .ptr og 0 0)]) (fun _ => (og, 0, g.cells) :: (L8 gs { o with rv := o.rv + 1 } { s with depth := max s.depth ((r.length : Int) + 1) } (⟨⟨f, g.Entry, why, List.replicate g.Kinds.length 0, List.replicate g.Cells.toNat 0, [], false, 0, none⟩, l, t, w, 0, []⟩ :: r) [] pj ++ R)) (fun _ => True) ?_ (fun _ S _ hS => ?_)
 ·refine E_cs (t := decide (((r.length + 1 : Nat) : Int) > s.depth)) rfl (fun hq => ?_) (fun hq => ?_)
  ·refine aU ?_
   refine b7 hS0 rfl (.tail _ (.head _)) (v := .ref o.ro (o.rv + 1) 0 (r.length + 1) (some 9)) rfl ?_
   refine aU ?_
   have hq' := of_decide_eq_true hq
   refine E_stS hS0 rfl (xv := .int .i64 (max s.depth ((r.length : Int) + 1))) (by show AV.int .i64 ((r.length + 1 : Nat) : Int) = _; congr 1; omega) (Rp.there Rp.here) rfl rfl zqV (fun S hS => ?_)
   refine aU ?_
   exact s7 ⟨(), trivial, hS, wF⟩
  ·refine aU ?_
   have hq' := of_decide_eq_false hq
   have e : max s.depth ((r.length : Int) + 1) = s.depth := by omega
   refine s7 ⟨(), trivial, ?_, wF⟩
   rw [e]; exact hS0
 ·clear hS0
  refine aU ?_
  refine b7 hS rfl (.head _) (v := .sl false 1 (List.map (avI .i64) g.Params)) rfl ?_
  refine aU ?_
  generalize hs2 : ({ s with depth := max s.depth ((r.length : Int) + 1) } : S8) = s2 at hS ⊢
  generalize ho2 : ({ o with rv := o.rv + 1 } : O8) = o2 at hS ⊢
  rw [show o.r = o2.r by rw [<- ho2]]
  refine a1i g.Params.length (fun q : Q8 => [(0, .ptr o2.r 0 0), (2, av), (8, .ptr og 0 0), (59, .sl false 1 (g.Params.map (avI .i64)))]) (fun q => (og, 0, g.cells) :: (L8 gs o2 s2 (q :: r) [] pj ++ R))
   (fun i q => b9B g ag i (g.Params.drop i) q.toF8 = some F) _ hS hv wF zO zD zD (fun _ => ⟨rfl, rfl, rfl, rfl⟩) (fun i q S hi hI hS => ?_) (fun q fr' S hI hS hw => ?_)
  ·have hk : g.Params[i]? = some g.Params[i] := List.getElem?_eq_getElem hi
   rw [List.drop_eq_getElem_cons hi] at hI
   unfold b9B at hI
   obtain ⟨a, h1, hI⟩ := Option.bind_eq_some_iff.1 hI
   obtain rfl : av = .sl false 1 (ag.map (avI .u64)) := hav.resolve_right (fun h => by rw [h.1] at h1; cases h1)
   obtain ⟨z1, h2, hI⟩ := Option.bind_eq_some_iff.1 hI
   obtain ⟨c, h3, hI⟩ := Option.bind_eq_some_iff.1 hI
   refine aU ?_
   refine g8 (esh := none) (f := avI .i64) (ys := g.Params) (y := g.Params[i]) (n := (i : Int)) rfl rfl (by unfold j9; rw [if_pos zO]; exact hk) ?_
   refine aU ?_
   refine g8 (esh := none) (f := avI .u64) (ys := ag) (y := a) (n := (i : Int)) rfl rfl (by unfold j9; rw [if_pos zO]; exact h1) ?_
   refine aU ?_
   refine a2S (a6q h2 zO) hS rfl (Spl.last (PkC.there PkC.here)) (fun x S L' hL hS => ?_)
   obtain ⟨ll, rfl, rfl⟩ := hL
   refine aU ?_
   refine b7 hS rfl (List.mem_append_right _ (.head _)) (v := .sl false 1 (List.map (avI .i64) g.Init)) rfl ?_
   refine aU ?_
   refine g8 (esh := none) (f := avI .i64) (ys := g.Init) (y := c) (n := (i : Int)) rfl rfl (by unfold j9; rw [if_pos zO]; exact h3) ?_
   refine aU ?_
   split at hI
   ·rename_i hc
    split at hI
    ·rename_i hc2
     obtain ⟨w2, hw2⟩ : ∃ w, q.ce[c.toNat]? = some w := ⟨_, List.getElem?_eq_getElem hc2⟩
     refine E_cs (t := true) (by show AV.bool (decide (c >= 0)) = _; rw [decide_eq_true hc]) (fun _ => ?_) (fun h => by cases h)
     refine aU ?_
     refine b7 hS rfl (.head _) (v := .ref o2.ro o2.rv 0 (r.length + 1) (some 9)) rfl ?_
     refine aU ?_
     refine b7 hS rfl (.head _) (v := .ref o2.ro o2.rv 0 (r.length + 1) (some 9)) rfl ?_
     refine aU ?_
     refine s6 rfl rfl r.length (a1M zO) zO ?_
     refine aU ?_
     refine b7 hS rfl (.tail _ (.head _)) (v := .ref q.cl 0 0 q.ce.length none) (by rw [u1]; exact vT (z4 r) rfl) ?_
     refine aU ?_
     refine b7 hS rfl (List.mem_append_right _ (.head _)) (v := .sl false 1 (List.map (avI .i64) g.Init)) rfl ?_
     refine aU ?_
     refine g8 (esh := none) (f := avI .i64) (ys := g.Init) (y := c) (n := (i : Int)) rfl rfl (by unfold j9; rw [if_pos zO]; exact h3) ?_
     refine aU ?_
     refine g8 (esh := none) (f := avI .u64) (ys := ag) (y := a) (n := (i : Int)) rfl rfl (by unfold j9; rw [if_pos zO]; exact h1) ?_
     refine aU ?_
     refine s6 rfl rfl c.toNat zO hc2 ?_
     refine a5P (y' := a) (l := q.ce) hS (d8 .u64) rfl (xv := .int .u64 a) rfl (n := c.toNat) (fo := 0) (y := w2) (by simp [d9]) hw2 (c3q (z := { q with lo := ll })) rfl rfl (by simp [d9]) rfl (fun S hS => ?_)
     refine aU ?_
     refine aE ?_
     exact R_n { q with lo := ll, ce := q.ce.set c.toNat a } hI (hS.perm List.perm_middle) wF
    ·cases hI
   ·rename_i hc
    refine E_cs (t := false) (by show AV.bool (decide (c >= 0)) = _; rw [decide_eq_false hc]) (fun h => by cases h) (fun _ => ?_)
    refine aU ?_
    refine aE ?_
    exact R_n { q with lo := ll } hI (hS.perm List.perm_middle) wF
  ·rw [List.drop_length] at hI
   cases hI
   refine ⟨trivial, _, rfl, _, ⟨q, rfl, rfl⟩, hS.sub (List.sublist_cons_self _ _)⟩
theorem b2x {f why : Int} {ag : List Int} {F : F8} (hv : b0R gs f ag why = some F) (hok : ∀ g ∈ gs, okG g) (hn : r.length < 10000000) (hd : 0 <= s.depth /\ s.depth < 1000000000) :
  Tri Try.prog 47 [.ptr o.r 0 0, .int .i64 f, .sl false 1 (ag.map (avI .u64)), .int .i64 why] (L8 gs o s r rj pj)
   (fun _ L' => ∃ z : Q8, z.toF8 = F /\ L' = L8 gs { o with rv := o.rv + 1 } { s with depth := max s.depth ((r.length : Int) + 1) } (z :: r) [] pj) := a7j (.inl rfl) hv hok hn hd
end
end Go.Proofs.Ytnpemocpfdgaoaa

/- ref8's next, back, waiting: the walks. -/
namespace Go.Ab
section
variable {P : Program} {S0 : List Ob} {ow : List Nat} {fr : Fr} {S : List Ob} {log : List LE} {L L' : List It} {esh : Option Nat}
end
end Go.Ab
namespace Go.Proofs.Ytnpemocpfdgaoaa
open Go Go.Ab
set_option maxRecDepth 20000
set_option maxHeartbeats 2000000
noncomputable def c3r : FC := fcO 112
theorem b9C : Fn3 Try.prog 112 51 [(4, none)] c3r := ⟨_, _, Try.func112, rfl, rfl, rfl, by kernel_rfl⟩

noncomputable def c3s : FC := fcO 113
theorem c3t : Fn3 Try.prog 113 101 [] c3s := ⟨_, _, Try.func113, rfl, rfl, rfl, by kernel_rfl⟩

section
variable {gs : List a9} {o : O8} {s : S8} {z : Q8} {r : List Q8} {rj pj : List AV}
theorem a4Y {z' : Q8} {k : Nat} {x : AV} {R : List It} (hk : k < 9) (hx : x.cells = [x]) (hc : c8 z' = (c8 z).set k x) (ho : o8 z' = o8 z) :
  Rp (L8 gs o s (z :: r) rj pj ++ R) (o.ro, o.rv, rC (z :: r) ++ rj) (o.ro, o.rv, splice (rC (z :: r) ++ rj) (0 + r.length * d9 (some 9) + k) x.cells) (L8 gs o s (z' :: r) rj pj ++ R) := by
 have e : L8 gs o s (z' :: r) rj pj = (o.r, 0, h8 gs o s (r.length + 1)) :: (o.ro, o.rv, rC r ++ ((c8 z).set k x ++ rj)) :: (x8 o s pj ++ (z :: r).flatMap o8) := by
  unfold L8
  rw [u1, hc, List.flatMap_cons, ho]; rfl
 have e0 : L8 gs o s (z :: r) rj pj = (o.r, 0, h8 gs o s (r.length + 1)) :: (o.ro, o.rv, rC r ++ (c8 z ++ rj)) :: (x8 o s pj ++ (z :: r).flatMap o8) := by
  unfold L8
  rw [u1]; rfl
 rw [u1, spT (z4 r) (by simpa using hk) hx, e, e0]
 exact Rp.there Rp.here
theorem a2W {k : Nat} (hk : k < 9) : 0 + r.length * d9 (some 9) + k + 1 <= (rC (z :: r) ++ rj).length := by
 rw [List.length_append, z4]; simp [d9]; omega
theorem a7k {w : Int} (hz : z.wa = []) (hn : r.length < 10000000) : Tri Try.prog 112 [.ptr o.r 0 0, .int .i64 w] (L8 gs o s (z :: r) rj pj) (fun x L' => x = .bool false /\ L' = L8 gs o s (z :: r) rj pj) := by
 refine j7 mixed b9C zS [7] (fun R S hS => ?_)
 refine aU ?_
 refine b7 hS rfl (.head _) (v := .ref o.ro o.rv 0 (r.length + 1) (some 9)) rfl ?_
 refine aU ?_
 refine b7 hS rfl (.head _) (v := .ref o.ro o.rv 0 (r.length + 1) (some 9)) rfl ?_
 refine aU ?_
 refine s6 rfl rfl r.length (a1M zO) zO ?_
 refine aU ?_
 refine b7 hS rfl (.tail _ (.head _)) (v := .ref z.wl z.wv 0 z.wa.length (some 2)) (by rw [u1]; exact vT (z4 r) rfl) ?_
 refine aU ?_
 refine E_cs (t := true) (by show AV.bool ((z.wa.length : Int) == 0) = _; rw [hz]; rfl) (fun _ => ?_) (fun h => by cases h)
 refine aU ?_
 refine f7 ?_
 refine aE ?_
 exact ⟨trivial, _, rfl, _, ⟨rfl, rfl⟩, hS⟩
theorem b9D {R : List It} : (z.wl, z.wv, flat a7g.av z.wa.reverse ++ z.wj) ∈ L8 gs o s (z :: r) rj pj ++ R := .tail _ (.tail _ (.tail _ (.tail _ (.tail _ (.tail _ (.tail _ (.head _)))))))
theorem a7l {w : Int} {x : a7g} {wa : List a7g} {F : F8} (hz : z.wa = x :: wa) (hv : b0R gs x.f x.args w = some F) (hok : ∀ g ∈ gs, okG g) (hn : r.length < 9999999) (hd : 0 <= s.depth /\ s.depth < 1000000000) (hw : wa.length < 100000000) :
  Tri Try.prog 112 [.ptr o.r 0 0, .int .i64 w] (L8 gs o s (z :: r) rj pj) (fun v L' => v = .bool true /\ ∃ z1 : Q8, z1.toF8 = F /\ L' = L8 gs { o with rv := o.rv + 1 } { s with depth := max s.depth ((r.length : Int) + 2) } (z1 :: { z with wa := wa, wj := x.cells ++ z.wj } :: r) [] pj) := by
 have hx : z.wa.reverse[wa.length]? = some x := by rw [hz, List.reverse_cons, List.getElem?_append_right zS]; simp
 have hlen : z.wa.length = wa.length + 1 := by rw [hz]; rfl
 refine j7 mixed b9C zS [7] (fun R S hS => ?_)
 refine aU ?_
 refine b7 hS rfl (.head _) (v := .ref o.ro o.rv 0 (r.length + 1) (some 9)) rfl ?_
 refine aU ?_
 refine b7 hS rfl (.head _) (v := .ref o.ro o.rv 0 (r.length + 1) (some 9)) rfl ?_
 refine aU ?_
 refine s6 rfl rfl r.length (a1M zO) zO ?_
 refine aU ?_
 refine b7 hS rfl (.tail _ (.head _)) (v := .ref z.wl z.wv 0 z.wa.length (some 2)) (by rw [u1]; exact vT (z4 r) rfl) ?_
 refine aU ?_
 refine E_cs (t := false) (by show AV.bool ((z.wa.length : Int) == 0) = _; rw [show ((z.wa.length : Int) == 0) = false by simp; rw [hz]; simp]) (fun h => by cases h) (fun _ => ?_)
 refine aU ?_
 refine b7 hS rfl (.tail _ (.head _)) (v := .ref z.wl z.wv 0 z.wa.length (some 2)) (by rw [u1]; exact vT (z4 r) rfl) ?_
 refine aU ?_
 refine s6 rfl rfl wa.length (by show IntKind.i64.wrap ((z.wa.length : Int) - 1) = _; rw [hlen]; exact a1M zO) zO ?_
 refine b2q hS a7g.enc rfl b9D (n := wa.length) (fo := 0) (y := x) zS hx (v := x.av) rfl ?_
 refine z7 hS rfl (fun od S hS => ?_)
 refine E_stS hS rfl (xv := x.av) rfl Rp.here rfl rfl zqV (fun S hS => ?_)
 refine aU ?_
 refine b7 hS rfl (.tail _ (.tail _ (.head _))) (v := .ref z.wl z.wv 0 z.wa.length (some 2)) (by rw [u1]; exact vT (z4 r) rfl) ?_
 refine aU ?_
 refine a5J (a := 0) (b := wa.length) rfl rfl (by show hiN z.wa.length (some (.int .i64 (IntKind.i64.wrap ((z.wa.length : Int) - 1)))) = _; rw [hlen, a1M zO, a0U zO]; simp) ⟨by omega, by omega, .inl rfl⟩ ?_
 refine aU ?_
 have e2 : flat a7g.av z.wa.reverse ++ z.wj = flat a7g.av wa.reverse ++ (x.cells ++ z.wj) := by rw [hz, List.reverse_cons, w4, List.append_assoc]; rfl
 refine E_stS hS rfl (xv := .ref z.wl z.wv 0 wa.length (some 2)) (by show AV.ref z.wl z.wv (0 + 0 * d9 (some 2)) (wa.length - 0) (some 2) = _; simp) (Rp.there (a4Y (z' := { z with wa := wa, wj := x.cells ++ z.wj }) zO rfl rfl (by show [_, _, (z.wl, z.wv, flat a7g.av wa.reverse ++ (x.cells ++ z.wj))] = _; rw [<- e2]))) rfl rfl (a2W zO) (fun S hS => ?_)
 refine aU ?_
 refine b7 hS rfl (.head _) (v := .int .i64 x.f) rfl ?_
 refine aU ?_
 refine b7 hS rfl (.head _) (v := .sl false 1 (x.args.map (avI .u64))) rfl ?_
 refine aU ?_
 refine a2S (b2x (r := { z with wa := wa, wj := x.cells ++ z.wj } :: r) hv hok zE hd) hS rfl (Spl.last (PkC.there PkC.here)) (fun y S L' hL hS => ?_)
 obtain ⟨z1, h1, rfl⟩ := hL
 refine aU ?_
 refine f7 ?_
 refine aE ?_
 refine ⟨trivial, _, rfl, _, ⟨rfl, z1, h1, rfl⟩, ?_⟩
 have e1 : max s.depth (((({ z with wa := wa, wj := x.cells ++ z.wj } :: r : List Q8).length : Nat) : Int) + 1) = max s.depth ((r.length : Int) + 2) := by simp; omega
 rw [e1] at hS
 exact hS.sub (List.Sublist.append_left (List.sublist_cons_self _ _) _)
def F8.back (gs : List a9) (z : F8) (v : Int) : Option F8 := (j9 gs z.f).bind fun g => (j9 g.Nodes z.pc).bind fun n => F8.set { z with pc := n.Next } n.D v
theorem b2y {v : Int} {F : F8} (hv : z.toF8.back gs v = some F) (hn : r.length < 10000000) :
  Tri Try.prog 113 [.ptr o.r 0 0, .int .u64 v] (L8 gs o s (z :: r) rj pj) (fun _ L' => ∃ z' : Q8, z'.toF8 = F /\ L' = L8 gs o s (z' :: r) rj pj) := by
 unfold F8.back at hv
 obtain ⟨g, hg, hv⟩ := Option.bind_eq_some_iff.1 hv
 obtain ⟨n, hnd, hv⟩ := Option.bind_eq_some_iff.1 hv
 refine j7 mixed c3t zS [5] (fun R S hS => ?_)
 refine c7 ?_
 refine a8 ?_
 refine aS ?_
 refine b7 hS rfl (.head _) (v := .ref o.ro o.rv 0 (r.length + 1) (some 9)) rfl ?_
 refine aS ?_
 refine b7 hS rfl (.head _) (v := .ref o.ro o.rv 0 (r.length + 1) (some 9)) rfl ?_
 refine aS ?_
 refine s6 rfl rfl r.length (a1M zO) zO ?_
 refine aS ?_
 refine a7 ?_
 refine d7 ?_
 refine c7 ?_
 refine s4 ?_
 refine aU ?_
 refine b7 hS rfl (.head _) (v := .sl false 8 (List.map a9.av gs)) rfl ?_
 refine aU ?_
 refine b7 hS rfl (.tail _ (.head _)) (v := .int .i64 z.f) (by rw [u1]; exact vT (z4 r) rfl) ?_
 refine aU ?_
 refine g8 (esh := some 8) (f := a9.av) (ys := gs) (y := g) rfl rfl hg ?_
 refine aU ?_
 refine b7 hS rfl (.tail _ (.head _)) (v := .int .i64 z.pc) (by rw [u1]; exact vT (z4 r) rfl) ?_
 refine aU ?_
 refine g8 (esh := some 12) (f := b8.av) (ys := g.Nodes) (y := n) rfl rfl hnd ?_
 refine aU ?_
 refine z7 hS rfl (fun oi S hS => ?_)
 have h1 : o.r ≠ oi := fun e => (List.nodup_cons.1 hS.2).1 (by rw [<- e]; exact List.mem_map.2 ⟨_, .head _, rfl⟩)
 have h2 : o.ro ≠ oi := fun e => (List.nodup_cons.1 hS.2).1 (by rw [<- e]; exact List.mem_map.2 ⟨_, .tail _ (.head _), rfl⟩)
 refine E_stS hS rfl (xv := n.av) rfl Rp.here rfl rfl zqV (fun S hS => ?_)
 refine a7 ?_
 refine And.intro (by simp [u7, a1u, r5, y8, h1, h2, Ne.symm h1, Ne.symm h2]) ?_
 refine aU ?_
 refine b7 hS rfl (.head _) (v := .int .i64 n.Next) rfl ?_
 refine aU ?_
 refine E_stS hS rfl (xv := .int .i64 n.Next) rfl (Rp.there (a4Y (z' := { z with pc := n.Next }) zO rfl rfl rfl)) rfl rfl (a2W zO) (fun S hS => ?_)
 refine aU ?_
 refine b7 hS rfl (.tail _ (.head _)) (v := .bool false) rfl ?_
 refine aU ?_
 refine E_cs (t := true) rfl (fun _ => ?_) (fun h => by cases h)
 refine aU ?_
 refine b7 hS rfl (.head _) (v := .int .i64 n.D) rfl ?_
 refine aU ?_
 refine a2S (a6q (z := { z with pc := n.Next }) hv zO) hS rfl (Spl.last (PkC.there PkC.here)) (fun x S L' hL hS => ?_)
 obtain ⟨l, rfl, rfl⟩ := hL
 refine aU ?_
 refine f7 ?_
 refine aE ?_
 exact ⟨trivial, _, rfl, _, ⟨{ z with pc := n.Next, lo := l }, rfl, rfl⟩, hS.sub (List.Sublist.append_left (List.sublist_cons_self _ _) _)⟩
def waS : List F8 -> Nat
 | [] => 0
 | z :: r => z.wa.length + waS r
end
end Go.Proofs.Ytnpemocpfdgaoaa

/- ref8's unwind, begin: the walks. -/
namespace Go.Proofs.Ytnpemocpfdgaoaa
open Go Go.Ab
set_option maxRecDepth 20000
set_option maxHeartbeats 2000000
noncomputable def c3u : FC := fcO 111
theorem c3v : Fn3 Try.prog 111 86 [] c3u := ⟨_, _, Try.func111, rfl, rfl, rfl, by kernel_rfl⟩

def c2f (w : Int) (ps : List a1W) : Option (List a1W) := if w = 2 then (match ps with | a :: _ :: l => some (a :: l) | _ => none) else some ps
theorem a7m {w : Int} {ps q : List a1W} (h : c2f w ps = some q) : (w = 2 /\ ∃ a b l, ps = a :: b :: l /\ q = a :: l) \/ (w ≠ 2 /\ q = ps) := by
 unfold c2f at h
 split at h
 ·rename_i hw
  split at h
  ·cases h; exact .inl ⟨hw, _, _, _, rfl, rfl⟩
  ·cases h
 ·rename_i hw
  cases h; exact .inr ⟨hw, rfl⟩
def c6x : List a1W -> Option Int
 | a :: _ => some a.v
 | [] => none
def a9v (gs : List a9) : List F8 -> List a1W -> Option (Option Int × List F8 × List a1W)
 | [], _ => none
 | z :: r, ps => match z.wa with
   | x :: wa => (b0R gs x.f x.args 2).bind fun F => some (none, F :: { z with wa := wa } :: r, ps)
   | [] => (c2f z.why ps).bind fun ps' => match r with
     | [] => (c6x ps').map fun v => (some v, [], ps')
     | y :: t => a9v gs (y :: t) ps'
theorem b2z {gs : List a9} {z : F8} {r : List F8} {ps : List a1W} {x} (hz : z.wa = []) (h : a9v gs (z :: r) ps = some x) : ∃ q, c2f z.why ps = some q /\ (r = [] -> ∃ v, c6x q = some v /\ x = (some v, [], q)) /\ (r ≠ [] -> a9v gs r q = some x) := by
 unfold a9v at h
 rw [hz] at h
 obtain ⟨q, h1, h2⟩ := Option.bind_eq_some_iff.1 h
 refine ⟨q, h1, fun e => ?_, fun e => ?_⟩
 ·subst e
  obtain ⟨v, h3, h4⟩ := Option.map_eq_some_iff.1 h2
  exact ⟨v, h3, h4.symm⟩
 ·cases r with
  | nil => exact absurd rfl e
  | cons y t => exact h2
theorem b0S {gs : List a9} {z : F8} {r : List F8} {ps : List a1W} {x y df} (hz : z.wa = y :: df) (h : a9v gs (z :: r) ps = some x) : ∃ F, b0R gs y.f y.args 2 = some F /\ x = (none, F :: { z with wa := df } :: r, ps) := by
 unfold a9v at h
 rw [hz] at h
 obtain ⟨f, h1, h2⟩ := Option.bind_eq_some_iff.1 h
 cases h2
 exact ⟨f, h1, rfl⟩
section
variable {gs : List a9} {o : O8} {s : S8} {z : Q8} {r : List Q8} {rj pj : List AV}
theorem b9E {R : List It} {S : List Ob} (h : Ab.Sep S ((o.r, 0, h8 gs o s r.length) :: (o.ro, o.rv, rC (z :: r) ++ rj) :: (x8 o s pj ++ (z :: r).flatMap o8 ++ R))) : Ab.Sep S (L8 gs o s r (c8 z ++ rj) pj ++ R) := by
 rw [u1] at h
 refine h.sub ?_
 refine .cons_cons _ (.cons_cons _ ?_)
 exact List.Sublist.append_right (List.Sublist.append_left (by rw [List.flatMap_cons]; exact List.sublist_append_right _ _) _) _
theorem b3h (z : Q8) : (AV.agg (c8 z)).cells.all AV.one = true := by
 have h : (kpA z.kp).one = true := by cases z.kp <;> rfl
 show (c8 z).all AV.one = true
 simp only [c8, List.all_cons, List.all_nil, h]
 rfl
theorem a9h {rows : List Q8} {ps' : List a1W} {en : Option Int} {A' : List F8} (hv : a9v gs (ab8 rows) s.pans = some (en, A', ps')) (hok : ∀ g ∈ gs, okG g) (hn : rows.length < 9999999) (hp : s.pans.length < 10000000) (hd : 0 <= s.depth /\ s.depth < 1000000000) (hw : ∀ z ∈ rows, z.wa.length < 100000000) :
  Tri Try.prog 111 [.ptr o.r 0 0] (L8 gs o s rows rj pj)
   (fun _ L' => ∃ rv lv rows' rj' pj', ab8 rows' = A' /\ L' = L8 gs { o with rv := rv, lv := lv } { s with pans := ps', ek := if en.isSome then 2 else s.ek, ev := en.getD s.ev, depth := if en.isSome then s.depth else max s.depth (A'.length : Int) } rows' rj' pj') := by
 refine j7 mixed c3v zS [2, 4] (fun R S hS => ?_)
 refine p5 (a2t (σ := List Q8 × List a1W × List AV × List AV × Nat) (fun _ => [(0, .ptr o.r 0 0)]) (fun q => L8 gs { o with lv := q.2.2.2.2 } { s with pans := q.2.1 } q.1 q.2.2.1 q.2.2.2.1 ++ R)
  (fun q => a9v gs (ab8 q.1) q.2.1 = some (en, A', ps') /\ q.1.length < 9999999 /\ q.2.1.length < 10000000 /\ ∀ z ∈ q.1, z.wa.length < 100000000) (fun q => q.1.length) (rows, s.pans, rj, pj, o.lv) hS ⟨hv, hn, hp, hw⟩
  wF (fun q S hI hS => ?_))
 obtain ⟨rows1, ps1, rj1, pj1, lv⟩ := q
 obtain ⟨i1, i2, i3, i4⟩ := hI
 dsimp only at i1 i2 i3 i4 hS
 cases rows1 with
 | nil => cases i1
 | cons z r =>
 have hrl : r.length < 9999998 := by simp at i2; omega
 refine aU ?_
 cases hz : z.wa with
 | nil =>
   refine a2S (a7k (o := { o with lv := lv }) (s := { s with pans := ps1 }) (r := r) (w := 2) hz zO) hS rfl (.refl _) (fun r0 S L' hL hS => ?_)
   obtain ⟨rfl, rfl⟩ := hL
   refine aU ?_
   refine E_cs (t := true) rfl (fun _ => ?_) (fun h => by cases h)
   refine aU ?_
   refine p5 ?_
   refine c7 ?_
   refine s4 ?_
   refine aU ?_
   refine b7 hS rfl (.head _) (v := .ref o.ro o.rv 0 (r.length + 1) (some 9)) rfl ?_
   refine aU ?_
   refine b7 hS rfl (.head _) (v := .ref o.ro o.rv 0 (r.length + 1) (some 9)) rfl ?_
   refine aU ?_
   refine s6 rfl rfl r.length (a1M zO) zO ?_
   refine b7 hS rfl (.tail _ (.head _)) (v := .agg (c8 z)) (by rw [u1]; exact vT0 (z4 r) rfl) ?_
   refine z7 hS rfl (fun oi S hS => ?_)
   have h1 : o.r ≠ oi := fun e => (List.nodup_cons.1 hS.2).1 (by rw [<- e]; exact List.mem_map.2 ⟨_, .head _, rfl⟩)
   have h2 : o.ro ≠ oi := fun e => (List.nodup_cons.1 hS.2).1 (by rw [<- e]; exact List.mem_map.2 ⟨_, .tail _ (.head _), rfl⟩)
   refine E_stS hS rfl (xv := .agg (c8 z)) rfl Rp.here rfl (b3h z) zqV (fun S hS => ?_)
   refine a7 ?_
   refine And.intro (by simp [u7, a1u, r5, y8, h1, h2, Ne.symm h1, Ne.symm h2]) ?_
   refine aU ?_
   refine b7 hS rfl (.tail _ (.head _)) (v := .ref o.ro o.rv 0 (r.length + 1) (some 9)) rfl ?_
   refine aU ?_
   refine b7 hS rfl (.tail _ (.head _)) (v := .ref o.ro o.rv 0 (r.length + 1) (some 9)) rfl ?_
   refine aU ?_
   refine a5J (a := 0) (b := r.length) rfl rfl (by show hiN (r.length + 1) (some (.int .i64 (IntKind.i64.wrap (((r.length + 1 : Nat) : Int) - 1)))) = _; rw [a1M zO, a0U zO]; simp) ⟨by omega, by omega, .inl rfl⟩ ?_
   refine aU ?_
   refine E_stS hS rfl (xv := .ref o.ro o.rv 0 r.length (some 9)) (by show AV.ref o.ro o.rv (0 + 0 * d9 (some 9)) (r.length - 0) (some 9) = _; simp) (Rp.there Rp.here) rfl rfl zqV (fun S hS => ?_)
   have hS2 : Ab.Sep S (L8 gs { o with lv := lv } { s with pans := ps1 } r (c8 z ++ rj1) pj1 ++ ((oi, 0, c8 z) :: R)) := b9E (R := (oi, 0, c8 z) :: R) (hS.perm (by
    refine (List.perm_middle (l₁ := (o.r, 0, h8 gs { o with lv := lv } { s with pans := ps1 } r.length) :: (o.ro, o.rv, rC (z :: r) ++ rj1) :: (x8 { o with lv := lv } { s with pans := ps1 } pj1 ++ (z :: r).flatMap o8)) (l₂ := R)).symm))
   clear hS
   refine aU ?_
   refine b7 hS2 rfl (.head _) (v := .ref o.li lv 0 ps1.length (some 2)) rfl ?_
   refine aU ?_
   refine b7 hS2 rfl (List.mem_append_right _ (.head _)) (v := .int .i64 z.why) rfl ?_
   refine aU ?_
   obtain ⟨ps2, h3, h4, h5⟩ := b2z (z := z.toF8) (r := ab8 r) hz i1
   refine a7S (σ := List AV × Nat) (fun _ => [(0, .ptr o.r 0 0)])
    (fun q => L8 gs { o with lv := q.2 } { s with pans := ps2 } r (c8 z ++ rj1) q.1 ++ R)
    (fun _ => ps2.length <= ps1.length) ?_ (fun q S hI hS => ?_)
   ·refine E_cs (t := z.why == 2) rfl (fun hw => ?_) (fun hw => ?_)
    ·have hw' : z.why = 2 := by simpa using hw
     obtain ⟨_, a, b, l, rfl, rfl⟩ : z.why = 2 /\ ∃ a b l, ps1 = a :: b :: l /\ ps2 = a :: l := (a7m h3).resolve_right (fun h => h.1 hw')
     simp only [List.length_cons] at i3
     have hxa : (a :: b :: l).reverse[l.length + 1]? = some a := by simp [List.getElem?_append]
     refine aU ?_
     refine b7 hS2 rfl (.head _) (v := .ref o.li lv 0 (l.length + 2) (some 2)) rfl ?_
     refine aU ?_
     refine s6 rfl rfl (l.length + 1) (by show IntKind.i64.wrap (((l.length + 1 + 1 : Nat) : Int) - 1) = _; exact a1M zO) zO ?_
     refine b2q hS2 a1W.enc rfl (.tail _ (.tail _ (.head _))) (n := l.length + 1) (fo := 0) (y := a) zS hxa (v := a.av) rfl ?_
     refine z7 hS2 rfl (fun o4 S hS => ?_)
     refine E_stS hS rfl (xv := a.av) rfl Rp.here rfl rfl zqV (fun S hS => ?_)
     refine a7 ?_
     refine d7 ?_
     refine s4 ?_
     refine aU ?_
     refine b7 hS rfl (.tail _ (.head _)) (v := .ref o.li lv 0 (l.length + 2) (some 2)) rfl ?_
     refine aU ?_
     refine a5J (a := 0) (b := l.length) rfl rfl (by show hiN (l.length + 2) (some (.int .i64 (IntKind.i64.wrap (((l.length + 1 + 1 : Nat) : Int) - 2)))) = _; rw [p4 zO, a0U zO]; simp; omega) ⟨by omega, by omega, .inl rfl⟩ ?_
     refine aU ?_
     refine b7 hS rfl (.head _) (v := a.av) rfl ?_
     refine aU ?_
     have e4 : flat a1W.av (a :: b :: l).reverse ++ pj1 = flat a1W.av l.reverse ++ (b.cells ++ (a.cells ++ pj1)) := by
      rw [List.reverse_cons, List.reverse_cons, w4, w4, List.append_assoc, List.append_assoc]; rfl
     refine a3m (o := o.li) (ver := lv) (f := a1W.av) (l := l.reverse) (m := [a]) (j := b.cells ++ (a.cells ++ pj1)) hS a1W.enc (by show AV.ref o.li lv (0 + 0 * d9 (some 2)) (l.length - 0) _ = _; rw [List.length_reverse]; simp) (u3 (f := a1W.av) (esh := some 2) [a]) (by rw [<- e4]; exact Rp.there (Rp.there (Rp.there Rp.here))) ⟨by simp; omega, by simp; omega⟩ (fun S hS => ?_)
     refine aU ?_
     refine E_stS hS rfl (xv := .ref o.li (lv + 1) 0 (l.length + 1) (some 2)) (by show AV.ref o.li (lv + 1) 0 (l.reverse ++ [a]).length _ = _; simp) (Rp.there Rp.here) rfl rfl zqV (fun S hS => ?_)
     refine a7 ?_
     refine And.intro (by simp [u7, a1u, r5, y8]) ?_
     refine ⟨([], lv + 1), by simp, ?_, wF⟩
     have e5 : flat a1W.av (l.reverse ++ [a]) = flat a1W.av (a :: l).reverse ++ [] := by simp
     have hS5 : Ab.Sep S ((o4, 0, a.cells) :: (o.r, 0, h8 gs { o with lv := lv + 1 } { s with pans := a :: l } r.length) :: (o.ro, o.rv, rC r ++ (c8 z ++ rj1)) :: (o.li, lv + 1, flat a1W.av (l.reverse ++ [a])) :: (o.te, o.tv, flat a1A.av s.evs) :: (o.rg, 0, flat (avI .u64) (List.replicate 16 0)) :: (r.flatMap o8 ++ ((oi, 0, c8 z) :: R))) := hS
     rw [e5] at hS5
     have hS6 := hS5.sub (List.sublist_cons_self _ _)
     exact hS6.sub (.cons_cons _ (.cons_cons _ (.cons_cons _ (.cons_cons _ (.cons_cons _ (List.Sublist.append_left (List.sublist_cons_self _ _) _))))))
    ·have hw' : ¬ z.why = 2 := by simpa using hw
     obtain ⟨_, rfl⟩ := (a7m h3).resolve_left (fun h => hw' h.1)
     refine aU ?_
     exact s7 ⟨(pj1, lv), Nat.le_refl _, hS2.sub (List.Sublist.append_left (List.sublist_cons_self _ _) _), wF⟩
   ·obtain ⟨pj2, lv2⟩ := q
    dsimp only at hS
    refine aU ?_
    refine b7 hS rfl (.head _) (v := .ref o.ro o.rv 0 r.length (some 9)) rfl ?_
    refine aU ?_
    refine E_cs (t := ((r.length : Int) == 0)) rfl (fun hr => ?_) (fun hr => ?_)
    ·have hr0 : r = [] := by
      have : (r.length : Int) = 0 := by simpa using hr
      exact List.length_eq_zero_iff.1 zO
     subst hr0
     obtain ⟨v, h6, h7⟩ := h4 rfl
     obtain ⟨a, l, rfl⟩ : ∃ a l, ps2 = a :: l := by
      cases ps2 with
      | nil => cases h6
      | cons a l => exact ⟨a, l, rfl⟩
     cases h6
     cases h7
     have hla : (a :: l).reverse[l.length]? = some a := by simp
     simp only [List.length_cons] at hI
     refine aU ?_
     refine b7 hS rfl (.head _) (v := .ref o.li lv2 0 (l.length + 1) (some 2)) rfl ?_
     refine aU ?_
     refine b7 hS rfl (.head _) (v := .ref o.li lv2 0 (l.length + 1) (some 2)) rfl ?_
     refine aU ?_
     refine s6 rfl rfl l.length (a1M zO) zO ?_
     refine aU ?_
     refine b2q hS a1W.enc rfl (.tail _ (.tail _ (.head _))) (n := l.length) (fo := 0) (y := a) zS hla (v := .int .u64 a.v) rfl ?_
     refine aU ?_
     refine E_stS hS rfl (xv := .agg [.int .i64 2, .int .u64 a.v]) rfl Rp.here rfl rfl zqV (fun S hS => ?_)
     refine aU ?_
     refine f7 ?_
     refine aE ?_
     exact ⟨trivial, _, rfl, _, ⟨o.rv, lv2, [], _, pj2, rfl, rfl⟩, hS⟩
    ·have hr0 : r ≠ [] := fun e => by subst e; cases hr
     refine aU ?_
     refine aE ?_
     have hr1 : ab8 r ≠ [] := fun e => hr0 (List.map_eq_nil_iff.1 e)
     exact s7 ⟨(r, ps2, c8 z ++ rj1, pj2, lv2), ⟨h5 hr1, by show r.length < 9999999; omega, by show ps2.length < 10000000; omega, fun y hy => i4 y (.tail _ hy)⟩, by show r.length < (z :: r).length; simp, hS, wF⟩
 | cons x wa =>
   obtain ⟨F, h1, h2⟩ := b0S (z := z.toF8) (r := ab8 r) hz i1
   cases h2
   have hwz := i4 z (.head _)
   rw [hz] at hwz
   refine a2S (a7l (o := { o with lv := lv }) (s := { s with pans := ps' }) (r := r) (w := 2) hz h1 hok zO hd (by simp at hwz; omega)) hS rfl (.refl _) (fun r0 S L' hL hS => ?_)
   obtain ⟨rfl, z1, hz1, rfl⟩ := hL
   refine aU ?_
   refine E_cs (t := false) rfl (fun h => by cases h) (fun _ => ?_)
   refine a3f ?_
   refine aE ?_
   refine ⟨trivial, _, rfl, _, ⟨o.rv + 1, lv, z1 :: { z with wa := wa, wj := x.cells ++ z.wj } :: r, [], pj1, by rw [<- hz1]; rfl, rfl⟩, ?_⟩
   have e1 : max s.depth ((r.length : Int) + 2) = max s.depth (((F :: { z.toF8 with wa := wa } :: ab8 r : List F8).length : Nat) : Int) := by simp [ab8]; omega
   rw [e1] at hS
   exact hS
end
end Go.Proofs.Ytnpemocpfdgaoaa

