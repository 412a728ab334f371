/- The document's run of graphs: what it is, plainly and as objects. -/
import Derived.Test.YtnpemocpfdgaoaaGenR7
import Derived.Test.YtnpemocpfdgaoaaWlK11
import Derived.Test.YtnpemocpfdgaoaaGenK
set_option linter.unusedVariables false
set_option linter.unusedSimpArgs false
namespace Go.Ab
theorem vT {A l J : List AV} {m n k : Nat} {x : AV} (hA : A.length = n * m) (hx : l[k]? = some x) : w9 none (A ++ (l ++ J)) (0 + n * d9 (some m) + k) = some x := by
 have hk := (List.getElem?_eq_some_iff.1 hx).1
 have e : 0 + n * d9 (some m) + k = A.length + k := by rw [hA]; simp [d9]
 unfold w9
 rw [e]
 simp only [List.length_append]
 rw [if_pos zO, List.getD_eq_getElem?_getD, List.getElem?_append_right zO, Nat.add_sub_cancel_left, List.getElem?_append_left hk, hx]; rfl
theorem vT0 {A l J : List AV} {m n : Nat} (hA : A.length = n * m) (hl : l.length = m) : w9 (some m) (A ++ (l ++ J)) (0 + n * d9 (some m)) = some (.agg l) := by
 have e : 0 + n * d9 (some m) = A.length := by rw [hA]; simp [d9]
 unfold w9
 rw [e]
 simp only [List.length_append]
 rw [if_pos zO, List.drop_left, <- hl, List.take_left]
theorem spT {A l J : List AV} {m n k : Nat} {x : AV} (hA : A.length = n * m) (hk : k < l.length) (hx : x.cells = [x]) : splice (A ++ (l ++ J)) (0 + n * d9 (some m) + k) x.cells = A ++ (l.set k x ++ J) := by
 have e : 0 + n * d9 (some m) + k = A.length + k := by rw [hA]; simp [d9]
 have h := a4J (x.cells) (a := A) (c := l) (b := J) (fo := k) (by rw [hx]; simp; omega)
 rw [e, <- List.append_assoc, h, hx, List.append_assoc]
 rfl
theorem c7j {A l J : List AV} {k : Nat} {x : AV} (hk : k < l.length) : (A ++ (l ++ J)).set (A.length + k) x = A ++ (l.set k x ++ J) := by
 rw [List.set_append_right _ _ zO, Nat.add_sub_cancel_left, List.set_append_left _ _ hk]
end Go.Ab
namespace Go.Proofs.Ytnpemocpfdgaoaa
open Go Go.Ab
structure a7g where
 f : Int
 args : List Int
def a7g.cells (x : a7g) : List AV := [.int .i64 x.f, .sl false 1 (List.map (avI .u64) x.args)]
def a7g.av (x : a7g) : AV := .agg x.cells
theorem a7g.enc : Enc a7g.av (some 2) := ⟨fun _ => rfl, fun _ => rfl, fun _ => rfl, fun x n => f9 ⟨rfl, ((v6 (d8 .u64) 1).blw x.args n), trivial⟩⟩
structure a1W where
 v : Int
 rcv : Bool
def a1W.cells (x : a1W) : List AV := [.int .u64 x.v, .bool x.rcv]
def a1W.av (x : a1W) : AV := .agg x.cells
theorem a1W.enc : Enc a1W.av (some 2) := ⟨fun _ => rfl, fun _ => rfl, fun _ => rfl, fun x n => f9 ⟨rfl, rfl, trivial⟩⟩
structure F8 where
 f : Int
 pc : Int
 why : Int
 lo : List Int
 ce : List Int
 wa : List a7g
 ends : Bool
 ret : Int
 kp : Option (List Int)
structure Q8 extends F8 where
 pl : Nat
 cl : Nat
 wl : Nat
 wv : Nat
 wj : List AV
def kpA : Option (List Int) -> AV
 | none => .nils
 | some l => .sl false 1 (l.map (avI .u64))
abbrev c8 (z : Q8) : List AV := [.int .i64 z.f, .int .i64 z.pc, .int .i64 z.why, .ref z.pl 0 0 z.lo.length none, .ref z.cl 0 0 z.ce.length none, .ref z.wl z.wv 0 z.wa.length (some 2), .bool z.ends, .int .u64 z.ret, kpA z.kp]
abbrev o8 (z : Q8) : List It := [(z.pl, 0, flat (avI .u64) z.lo), (z.cl, 0, flat (avI .u64) z.ce), (z.wl, z.wv, flat a7g.av z.wa.reverse ++ z.wj)]
structure S8 where
 tape : List Int
 evs : List a1A
 ek : Int
 ev : Int
 steps : Int
 depth : Int
 defers : Int
 panics : Int
 pans : List a1W
structure O8 where
 r : Nat
 rg : Nat
 ro : Nat
 rv : Nat
 li : Nat
 lv : Nat
 te : Nat
 tv : Nat
def rC : List Q8 -> List AV
 | [] => []
 | z :: r => rC r ++ c8 z
abbrev h8 (gs : List a9) (o : O8) (s : S8) (n : Nat) : List AV := [.sl false 8 (List.map a9.av gs), .bool false, .ref o.rg 0 0 16 none, .ref o.ro o.rv 0 n (some 9), .ref o.li o.lv 0 s.pans.length (some 2), .sl false 1 (s.tape.map (avI .u64)), .ref o.te o.tv 0 s.evs.length (some 2), .int .i64 s.ek, .int .u64 s.ev, .int .i64 s.steps, .int .i64 s.depth, .int .i64 s.defers, .int .i64 s.panics]
abbrev x8 (o : O8) (s : S8) (pj : List AV) : List It := [(o.li, o.lv, flat a1W.av s.pans.reverse ++ pj), (o.te, o.tv, flat a1A.av s.evs), (o.rg, 0, flat (avI .u64) (List.replicate 16 0))]
def L8 (gs : List a9) (o : O8) (s : S8) (rows : List Q8) (rj pj : List AV) : List It :=
 (o.r, 0, h8 gs o s rows.length) :: (o.ro, o.rv, rC rows ++ rj) :: (x8 o s pj ++ rows.flatMap o8)
theorem z4 : ∀ rows : List Q8, (rC rows).length = rows.length * 9
 | [] => rfl
 | z :: r => by unfold rC; rw [List.length_append, z4 r]; simp; omega
theorem u1 {z : Q8} {r : List Q8} {j : List AV} : rC (z :: r) ++ j = rC r ++ (c8 z ++ j) := List.append_assoc (rC r) (c8 z) j
def ab8 (rows : List Q8) : List F8 := rows.map Q8.toF8
theorem a1M {n : Nat} (h : n < 1000000000) : IntKind.i64.wrap (((n + 1 : Nat) : Int) - 1) = (n : Int) := by rw [p4 zO]; omega
end Go.Proofs.Ytnpemocpfdgaoaa

/- ref8's get, set, args, waiting: the walks (read free). -/
namespace Go.Ab
section
variable {P : Program} {S0 : List Ob} {ow : List Nat} {fr : Fr} {S : List Ob} {log : List LE} {L L' : List It} {esh : Option Nat}
theorem s6 {d x i rs} {K : Fr -> List Ob -> List LE -> Prop} {o ver off m k z} (e : ev (Fr.get fr) x = .ref o ver off m esh) (e1 : ev (Fr.get fr) i = .int k z) (n : Nat) (hz : z = (n : Int)) (hn : n < m)
  (h : VTops P ow rs ((d, .ptr o ver (off + n * d9 esh)) :: fr) S (.acc [] none :: log) K) : VTops P ow (⟨some d, none, .op (.iad none esh x i)⟩ :: rs) fr S log K := by
 subst hz
 have := a2J (P := P) (ow := ow) (fr := fr) (S := S) (log := log) (d := d) (rs := rs) (K := K) (n := (n : Int)) e e1 ⟨by omega, by omega⟩ (by simpa using h)
 exact this
theorem b4a {d bytes s x rs} {K : Fr -> List Ob -> List LE -> Prop} {o ver n m : Nat} {cs j ys : List AV} {rdx : List Nat} (hS : Sep S L) (e : ev (Fr.get fr) s = .ref o ver 0 n esh) (e2 : a8Z esh (ev (Fr.get fr) x) S = some (m, ys, rdx))
  (hr : Rp L (o, ver, cs ++ j) (o, ver + 1, cs ++ ys) L') (hl : cs.length = n * d9 esh) (h1 : ys.all AV.one = true) (hb : (n + m) * bytes <= 140737488355328 /\ n + m <= 140737488355328)
  (h : ∀ S', Sep S' L' -> VTops P ow rs ((d, .ref o (ver + 1) 0 (n + m) esh) :: fr) S' (.acc (o :: o :: rdx) (some o) :: log) K) : VTops P ow (⟨some d, none, .op (.app esh bytes s x)⟩ :: rs) fr S log K := by
 have ho := hS.at hr.mem
 refine y3 (v := .ref o (ver + 1) 0 (n + m) esh) (rd := o :: rdx) (δ := some (o, .arr (ver + 1) (cs ++ ys))) ?_ rfl rfl (h _ (hS.rp hr))
 simp only [opV, b1E, e, e2, Option.bind_some, h1, if_true]
 rw [if_pos ⟨trivial, hb.1, hb.2⟩]
 simp only [v9, ho, if_true, Option.map_some, List.drop_zero]
 rw [<- hl, List.take_left]
end
end Go.Ab
namespace Go.Proofs.Ytnpemocpfdgaoaa
open Go Go.Ab
set_option maxRecDepth 20000
set_option maxHeartbeats 2000000
noncomputable def c7k : FC := fcO 73
theorem c7l : Fn3 Try.prog 73 36 [(4, none)] c7k := ⟨_, _, Try.func73, rfl, rfl, rfl, by kernel_rfl⟩

noncomputable def c7m : FC := fcO 72
theorem c6t : Fn3 Try.prog 72 39 [] c7m := ⟨_, _, Try.func72, rfl, rfl, rfl, by kernel_rfl⟩

section
variable {gs : List a9} {o : O8} {s : S8} {z : Q8} {r : List Q8} {rj pj : List AV}
theorem b6R {R : List It} : (z.pl, 0, flat (avI .u64) z.lo) ∈ L8 gs o s (z :: r) rj pj ++ R := .tail _ (.tail _ (.tail _ (.tail _ (.tail _ (.head _)))))
theorem b6S {R : List It} : (z.cl, 0, flat (avI .u64) z.ce) ∈ L8 gs o s (z :: r) rj pj ++ R := .tail _ (.tail _ (.tail _ (.tail _ (.tail _ (.tail _ (.head _))))))
theorem b4b {k : Nat} {v : Int} (h : z.lo[k]? = some v) (hn : r.length < 100000000) : TriR Try.prog 73 [.ptr o.r 0 0, .int .i64 k] (L8 gs o s (z :: r) rj pj) (.int .u64 v) := by
 have hk := (List.getElem?_eq_some_iff.1 h).1
 refine a7T mixed c7l zS [] (fun R S hS => ?_)
 refine aU ?_
 refine b7 hS rfl (.head _) (v := .bool false) rfl ?_
 refine aU ?_
 refine E_cs (t := false) rfl (fun h => by cases h) (fun _ => ?_)
 refine aU ?_
 refine b7 hS rfl (.head _) (v := .ref o.ro o.rv 0 (r.length + 1) (some 9)) rfl ?_
 refine aU ?_
 refine b7 hS rfl (.head _) (v := .ref o.ro o.rv 0 (r.length + 1) (some 9)) rfl ?_
 refine aU ?_
 refine s6 rfl rfl r.length (a1M zO) zO ?_
 refine aU ?_
 refine b7 hS rfl (.tail _ (.head _)) (v := .ref z.pl 0 0 z.lo.length none) (by rw [u1]; exact vT (z4 r) rfl) ?_
 refine aU ?_
 refine s6 rfl rfl k rfl hk ?_
 refine a2K hS (d8 .u64) rfl b6R (n := k) (fo := 0) (y := v) (by simp [d9]) h (v := .int .u64 v) rfl ?_
 refine aU ?_
 refine f7 ?_
 refine aE ?_
 exact ⟨trivial, _, rfl, rfl, rfl⟩
theorem c2I {k : Nat} {v : Int} {R : List It} : Rp (L8 gs o s (z :: r) rj pj ++ R) (z.pl, 0, flat (avI .u64) z.lo) (z.pl, 0, flat (avI .u64) (z.lo.set k v)) (L8 gs o s ({ z with lo := z.lo.set k v } :: r) rj pj ++ R) := by
 have e : L8 gs o s ({ z with lo := z.lo.set k v } :: r) rj pj = (o.r, 0, h8 gs o s (r.length + 1)) :: (o.ro, o.rv, rC (z :: r) ++ rj) :: (x8 o s pj ++ ((z.pl, 0, flat (avI .u64) (z.lo.set k v)) :: (z.cl, 0, flat (avI .u64) z.ce) :: (z.wl, z.wv, flat a7g.av z.wa.reverse ++ z.wj) :: r.flatMap o8)) := by
  unfold L8
  rw [u1, u1]
  show _ :: (o.ro, o.rv, rC r ++ ([.int .i64 z.f, .int .i64 z.pc, .int .i64 z.why, .ref z.pl 0 0 (z.lo.set k v).length none, _, _, _, _, _] ++ rj)) :: _ = _
  rw [List.length_set]; rfl
 rw [e]
 exact Rp.there (Rp.there (Rp.there (Rp.there (Rp.there Rp.here))))
theorem b4c {k : Nat} {v : Int} (hk : k < z.lo.length) (hn : r.length < 100000000) : Tri Try.prog 72 [.ptr o.r 0 0, .int .i64 k, .int .u64 v] (L8 gs o s (z :: r) rj pj) (fun _ L' => L' = L8 gs o s ({ z with lo := z.lo.set k v } :: r) rj pj) := by
 refine j7 mixed c6t zS [] (fun R S hS => ?_)
 refine aU ?_
 refine E_cs (t := false) (by show AV.bool (decide ((k : Int) < 0)) = _; rw [decide_eq_false zO]) (fun h => by cases h) (fun _ => ?_)
 refine aU ?_
 refine b7 hS rfl (.head _) (v := .bool false) rfl ?_
 refine aU ?_
 refine E_cs (t := false) rfl (fun h => by cases h) (fun _ => ?_)
 refine aU ?_
 refine b7 hS rfl (.head _) (v := .ref o.ro o.rv 0 (r.length + 1) (some 9)) rfl ?_
 refine aU ?_
 refine b7 hS rfl (.head _) (v := .ref o.ro o.rv 0 (r.length + 1) (some 9)) rfl ?_
 refine aU ?_
 refine s6 rfl rfl r.length (a1M zO) zO ?_
 refine aU ?_
 refine b7 hS rfl (.tail _ (.head _)) (v := .ref z.pl 0 0 z.lo.length none) (by rw [u1]; exact vT (z4 r) rfl) ?_
 refine aU ?_
 refine s6 rfl rfl k rfl hk ?_
 obtain ⟨w, hw⟩ : ∃ w, z.lo[k]? = some w := ⟨_, List.getElem?_eq_getElem hk⟩
 refine a5P (y' := v) (l := z.lo) hS (d8 .u64) rfl (xv := .int .u64 v) rfl (n := k) (fo := 0) (y := w) (by simp [d9]) hw c2I rfl rfl (by simp [d9]) rfl (fun S hS => ?_)
 refine aU ?_
 refine aE ?_
 exact ⟨trivial, _, rfl, _, rfl, hS⟩
theorem b2u {k v : Int} (hk : k < 0) : Tri Try.prog 72 [.ptr o.r 0 0, .int .i64 k, .int .u64 v] [] (fun _ L' => L' = []) := by
 refine j7 mixed c6t zS [] (fun R S hS => ?_)
 refine aU ?_
 refine E_cs (t := true) (by show AV.bool (decide (k < 0)) = _; rw [decide_eq_true hk]) (fun _ => ?_) (fun h => by cases h)
 refine aU ?_
 refine f7 ?_
 refine aE ?_
 exact ⟨trivial, _, rfl, _, rfl, hS⟩
def F8.get (z : F8) (k : Int) : Option Int := if 0 <= k then z.lo[k.toNat]? else none
def F8.set (z : F8) (k v : Int) : Option F8 := if 0 <= k then (if k.toNat < z.lo.length then some { z with lo := z.lo.set k.toNat v } else none) else some z
theorem F8.get_some {z : F8} {k v : Int} (h : z.get k = some v) : ∃ n : Nat, k = (n : Int) /\ z.lo[n]? = some v := by
 unfold F8.get at h
 split at h
 ·exact ⟨k.toNat, by omega, h⟩
 ·cases h
theorem b2v {k v : Int} (h : z.toF8.get k = some v) (hn : r.length < 100000000) : TriR Try.prog 73 [.ptr o.r 0 0, .int .i64 k] (L8 gs o s (z :: r) rj pj) (.int .u64 v) := by
 obtain ⟨n, rfl, h⟩ := F8.get_some h
 exact b4b h hn
theorem a6q {k v : Int} {z' : F8} (h : z.toF8.set k v = some z') (hn : r.length < 100000000) : Tri Try.prog 72 [.ptr o.r 0 0, .int .i64 k, .int .u64 v] (L8 gs o s (z :: r) rj pj) (fun _ L' => ∃ l, { z.toF8 with lo := l } = z' /\ L' = L8 gs o s ({ z with lo := l } :: r) rj pj) := by
 unfold F8.set at h
 split at h
 ·split at h
  ·cases h
   rename_i h0 h1
   obtain ⟨n, rfl⟩ : ∃ n : Nat, k = (n : Int) := ⟨k.toNat, by omega⟩
   exact (b4c (by simpa using h1) hn).mono (fun v L' e => ⟨_, by rw [Int.toNat_natCast], e⟩)
  ·cases h
 ·cases h
  rename_i h0
  intro R S hS
  obtain ⟨x, S', h1, L', rfl, h2⟩ := b2u (k := k) (v := v) zO (L8 gs o s (z :: r) rj pj ++ R) S hS
  exact ⟨x, S', h1, _, ⟨z.lo, rfl, rfl⟩, h2⟩
end
end Go.Proofs.Ytnpemocpfdgaoaa

/- build: slot, args, local, the top of a stack: the walks. -/
namespace Go.Ab
section
variable {P : Program} {f : FuncId} {args : List AV} {L L1 R : List It} {r : AV} {S : List Ob} {ow : List Nat} {fr : Fr} {log : List LE}
theorem p9 {d g x as0 fst caps rs} {K : Fr -> List Ob -> List LE -> Prop} {ags : List AV} (c : TriR P g ags L1 r) (hS : Sep S L) (ex : ev (Fr.get fr) x = .fn (.func g) fst caps) (hc : y7 P g = true) (e : fst ++ evL (Fr.get fr) as0 ++ caps = ags) (hp' : Spl L L1 R)
  (h : VTops P ow rs ((d, r) :: fr) S (.acc (L1.map (·.1)) none :: log) K) : VTops P ow (⟨some d, none, .callv x as0⟩ :: rs) fr S log K := by
 rw [a7I, ex, b6g, e]
 exact ⟨hc, a8t (c.rd (hS.spl hp')) h⟩
theorem Tri.weakr {r0 : AV} {Q : List It -> Prop} (c : Tri P f args L (fun x L' => x = r0 /\ Q L')) (h : AVw r0 r) : Tri P f args L (fun x L' => x = r /\ Q L') := fun R S hS => by
 obtain ⟨v, S', h1, L', ⟨rfl, h2⟩, h3⟩ := c R S hS
 exact ⟨r, S', h1.weakr h, L', ⟨rfl, h2⟩, h3⟩
end
end Go.Ab
namespace Go.Proofs.Ytnpemocpfdgaoaa
open Go Go.Ab
set_option maxRecDepth 20000
set_option maxHeartbeats 2000000
noncomputable def c7n : FC := fcO 87
theorem c7o : Fn3 Try.prog 87 21 [(6, none)] c7n := ⟨_, _, Try.func87, rfl, rfl, rfl, by kernel_rfl⟩

noncomputable def c7p : FC := fcO 86
theorem c7q : Fn3 Try.prog 86 17 [(5, none)] c7p := ⟨_, _, Try.func86, rfl, rfl, rfl, by kernel_rfl⟩

noncomputable def c7r : FC := fcO 89
theorem c6u : Fn3 Try.prog 89 40 [(6, none)] c7r := ⟨_, _, Try.func89, rfl, rfl, rfl, by kernel_rfl⟩

noncomputable def c7s : FC := fcO 88
theorem c7t : Fn3 Try.prog 88 40 [(8, (some (some 12)))] c7s := ⟨_, _, Try.func88, rfl, rfl, rfl, by kernel_rfl⟩

theorem f6 {S : List Ob} {F : Fm} {t o ver n : Nat} {cs : List AV} (h : F t = .ptr o ver 0) (ho : hp S o = .arr ver cs) (hn : cs.length = n) : a1T S F [(t, some (some n))] = some (.agg cs) := by
 simp [a1T, b3L, a6U, v9, h, ho, w9, <- hn]
def i9 (f : Func) (d k : Int) : Int := (f.Locals.length : Int) + 2 * d + k
section
variable {p : Program} {f : Func} {b cl : Nat} {cs : List AV} {cell : List Int}
theorem w7 {d k : Int} (hf : w9 none cs 1 = some (.cptr (Func.cells f) 0)) (hl : f.Locals.length < 1000000) (hd : -1000000 < d /\ d < 1000000) (hk : 0 <= k /\ k < 256) : TriR Try.prog 87 [.ptr b 0 0, .int .i64 d, .int .u8 k] [(b, 0, cs)] (.int .i64 (i9 f d k)) := by
 refine a7T mixed c7o zS [] (fun R S hS => ?_)
 refine aU ?_
 refine b7 hS rfl (.head _) (v := .cptr (Func.cells f) 0) hf ?_
 refine aU ?_
 refine f7 ?_
 refine aE ?_
 refine ⟨trivial, _, rfl, ?_, rfl⟩
 show AV.int .i64 (IntKind.i64.wrap (IntKind.i64.wrap ((f.Locals.length : Int) + IntKind.i64.wrap (2 * d)) + IntKind.i64.wrap k)) = _
 rw [p4 (x := 2 * d) zO, p4 (x := (f.Locals.length : Int) + 2 * d) zO, p4 (x := k) zO, p4 zO]
 rfl
theorem b4d {o3 o5 o8 : Nat} {s : List Int} {n k : Int} (hf : w9 none cs 1 = some (.cptr (Func.cells f) 0)) (hl : f.Locals.length < 1000000) (hs : s.length < 1000000) (hk : j9 s ((s.length : Int) - n) = some k) (hk2 : 0 <= k /\ k < 256) :
  TriR Try.prog 86 [.int .i64 n, .ptr o3 0 0, .ptr o8 0 0, .ptr o5 0 0] [(o3, 0, [.ptr b 0 0]), (o8, 0, [.int .i64 s.length]), (o5, 0, [.sl false 1 (s.map (avI .u8))]), (b, 0, cs)] (.int .i64 (i9 f ((s.length : Int) - n) k)) := by
 obtain ⟨h1, h2, _⟩ := g9 hk
 refine a7T mixed c7q zS [] (fun R S hS => ?_)
 refine aU ?_
 refine b7 hS rfl (.head _) (v := .ptr b 0 0) rfl ?_
 refine aU ?_
 refine b7 hS rfl (.tail _ (.head _)) (v := .int .i64 s.length) rfl ?_
 refine aU ?_
 rw [p4 (x := (s.length : Int) - n) zO]
 refine b7 hS rfl (.tail _ (.tail _ (.head _))) (v := .sl false 1 (s.map (avI .u8))) rfl ?_
 refine aU ?_
 refine b7 hS rfl (.tail _ (.head _)) (v := .int .i64 s.length) rfl ?_
 refine aU ?_
 rw [p4 (x := (s.length : Int) - n) zO]
 refine g8 (esh := none) (f := avI .u8) (ys := s) (y := k) (n := (s.length : Int) - n) rfl rfl hk ?_
 refine aU ?_
 refine a7f (w7 hf hl zO hk2) hS rfl (Spl.cons (Pk.there (Pk.there (Pk.there Pk.here))) Spl.nil) ?_
 refine aU ?_
 refine f7 ?_
 refine aE ?_
 exact ⟨trivial, _, rfl, rfl, rfl⟩
def m9 (f : Func) (s : List Int) (n m : Nat) : List Int := (List.range m).map fun (j : Nat) => i9 f ((n : Int) + j) (s.getD (n + j) 0)
theorem a5R {s : List Int} {n m : Nat} : m9 f s n (m + 1) = m9 f s n m ++ [i9 f ((n : Int) + m) (s.getD (n + m) 0)] := by
 unfold m9; rw [List.range_succ, List.map_append]; rfl
theorem a4T {s : List Int} {fi : Int} {g : Func} {n : Nat} (h0 : w9 none cs 0 = some (.cptr (Program.cells p) 0)) (hf : w9 none cs 1 = some (.cptr (Func.cells f) 0)) (hl : f.Locals.length < 1000000) (hs : s.length < 1000000) (hk : ∀ k ∈ s, 0 <= k /\ k < 256) (hg : j9 p.Funcs fi = some g) (hn : (s.length : Int) - g.Params = n) (hn2 : n <= s.length) :
  Tri Try.prog 89 [.ptr b 0 0, .sl false 1 (s.map (avI .u8)), .int .i64 fi] [(b, 0, cs)] (fun x L' => x = .sl false 1 ((m9 f s n (s.length - n)).map (avI .i64)) /\ L' = [(b, 0, cs)]) := by
 refine j7 mixed c6u zS [] (fun R S hS => ?_)
 refine c7 ?_
 refine a8 ?_
 refine aS ?_
 refine a7 ?_
 refine d7 ?_
 refine aQ ?_
 refine aS ?_
 refine a7 ?_
 refine b6G 7 none hS rfl (fun l S hS => ?_)
 refine aU ?_
 refine b7 hS rfl (.tail _ (.head _)) (v := .cptr (Program.cells p) 0) h0 ?_
 refine aU ?_
 refine g8 (esh := some 5) (f := Func.av) (ys := p.Funcs) (y := g) rfl rfl hg ?_
 refine aU ?_
 rw [show IntKind.i64.wrap ((s.length : Int) - g.Params) = (n : Int) by rw [hn, p4 zO]]
 refine p5 (a2t (σ := Nat) (fun m => [(0, .ptr b 0 0), (1, .sl false 1 (s.map (avI .u8))), (7, .ref l m 0 m none), (8, .int .i64 ((n + m : Nat) : Int))]) (fun m => (l, m, flat (avI .i64) (m9 f s n m)) :: ([(b, 0, cs)] ++ R)) (fun m => m <= s.length - n) (fun m => s.length - n - m) 0 hS (Nat.zero_le _) (a5n ⟨.refl _, .refl _, .refl _, by simp; exact .refl _, trivial⟩) (fun m S hI hS => ?_))
 have hlm : (m9 f s n m).length = m := by simp [m9]
 refine aU ?_
 by_cases hm : m < s.length - n
 ·refine E_cs (t := true) (by show AV.bool (decide (((n + m : Nat) : Int) < (s.length : Int))) = _; simp; omega) (fun _ => ?_) (fun h => by cases h)
  have hat : s[n + m]? = some s[n + m] := List.getElem?_eq_getElem zO
  refine aU ?_
  refine p5 ?_
  refine aU ?_
  refine g8 (esh := none) (f := avI .u8) (ys := s) (y := s[n + m]) (n := ((n + m : Nat) : Int)) rfl rfl (by unfold j9; rw [if_pos zO]; exact hat) ?_
  refine aU ?_
  refine a7f (w7 (d := ((n + m : Nat) : Int)) hf hl zO (hk _ (List.getElem_mem _))) hS rfl (Spl.cons (Pk.there Pk.here) Spl.nil) ?_
  refine aU ?_
  refine a3m (o := l) (ver := m) (l := m9 f s n m) (m := [i9 f ((n + m : Nat) : Int) s[n + m]]) (j := []) hS (d8 .i64) (by show AV.ref l m 0 m none = _; rw [hlm]) (u3 [i9 f ((n + m : Nat) : Int) s[n + m]]) (by rw [List.append_nil]; exact Rp.here) ⟨by simp; omega, by simp; omega⟩ (fun S hS => ?_)
  refine aU ?_
  refine aE ?_
  have e : m9 f s n m ++ [i9 f ((n + m : Nat) : Int) s[n + m]] = m9 f s n (m + 1) := by rw [a5R, List.getD_eq_getElem?_getD, hat]; simp
  rw [e] at hS ⊢
  rw [show (m9 f s n (m + 1)).length = m + 1 by simp [m9]]
  refine aU ?_
  exact s7 ⟨m + 1, by omega, by omega, hS, a5n ⟨.refl _, .refl _, .refl _, by
   show a4m none (.int .i64 (IntKind.i64.wrap (((n + m : Nat) : Int) + 1))) (.int .i64 ((n + (m + 1) : Nat) : Int))
   rw [p4 zO, show ((n + m : Nat) : Int) + 1 = ((n + (m + 1) : Nat) : Int) by omega]; exact .refl _, trivial⟩⟩
 ·refine E_cs (t := false) (by show AV.bool (decide (((n + m : Nat) : Int) < (s.length : Int))) = _; simp; omega) (fun h => by cases h) (fun _ => ?_)
  have hme : m = s.length - n := by omega
  subst hme
  refine a3f ?_
  refine aE ?_
  refine d7 ?_
  refine aQ ?_
  refine aS ?_
  refine a7 ?_
  refine b6L (l := m9 f s n (s.length - n)) 6 (d8 .i64) hS Pk.here (by show AV.ref _ _ _ _ _ = _; rw [hlm]) (fun S hS => ?_)
  refine aU ?_
  refine f7 ?_
  refine aE ?_
  exact ⟨trivial, _, rfl, _, ⟨rfl, rfl⟩, hS⟩
def a6r (n : b8) : AV := .agg [.int .u8 n.Op, .int .u8 n.By, .int .i64 n.D, .int .i64 n.E, .int .i64 n.A, .int .i64 n.B, .int .i64 n.F, .int .i64 n.Cell, .int .u64 n.Imm, .nils, .int .i64 n.Next, .int .i64 n.Else]
theorem b4e {n : b8} (h : n.Args = []) : AVw (a6r n) (b8.av n) := by
 unfold a6r b8.av b8.cells
 rw [h]
 refine .agg rfl fun j h1 h2 => ?_
 match j, h1 with
 | 0, _ => exact .refl _
 | 1, _ => exact .refl _
 | 2, _ => exact .refl _
 | 3, _ => exact .refl _
 | 4, _ => exact .refl _
 | 5, _ => exact .refl _
 | 6, _ => exact .refl _
 | 7, _ => exact .refl _
 | 8, _ => exact .refl _
 | 9, _ => exact .nil
 | 10, _ => exact .refl _
 | 11, _ => exact .refl _
def t5 (c : Int) (i place : Int) (write : Bool) : b8 :=
 if 0 <= c then (if write = true then ⟨5, 0, 0, 0, place, 0, 0, c, 0, [], 0, 0⟩ else ⟨4, 0, place, 0, 0, 0, 0, c, 0, [], 0, 0⟩)
 else (if write = true then ⟨2, 0, i, 0, place, 0, 0, 0, 0, [], 0, 0⟩ else ⟨2, 0, place, 0, i, 0, 0, 0, 0, [], 0, 0⟩)
theorem a3N {i place c : Int} {w : Bool} (hc : w9 none cs 2 = some (.ref cl 0 0 cell.length none)) (hi : j9 cell i = some c) :
  Tri Try.prog 88 [.ptr b 0 0, .int .i64 i, .int .i64 place, .bool w] [(b, 0, cs), (cl, 0, flat (avI .i64) cell)] (fun x L' => x = a6r (t5 c i place w) /\ L' = [(b, 0, cs), (cl, 0, flat (avI .i64) cell)]) := by
 obtain ⟨h1, h2, h3⟩ := g9 hi
 refine j7 mixed c7t zS [8] (fun R S hS => ?_)
 refine aU ?_
 refine z7 hS rfl (fun o8 S hS => ?_)
 refine aU ?_
 refine b7 hS rfl (.tail _ (.head _)) (v := .ref cl 0 0 cell.length none) hc ?_
 refine aU ?_
 refine s6 rfl rfl i.toNat zO zO ?_
 refine a2K hS (d8 .i64) rfl (.tail _ (.tail _ (.head _))) (n := i.toNat) (fo := 0) (y := c) (by simp [d9]) h3 (v := .int .i64 c) rfl ?_
 refine aU ?_
 by_cases h0 : 0 <= c
 ·have hd : decide (c >= 0) = true := decide_eq_true h0
  unfold t5; rw [if_pos h0]
  cases w with
  | true =>
    rw [if_pos rfl]
    refine p5 ?_
    refine aU ?_
    rw [hd]
    refine aU ?_
    refine E_cs (t := true) rfl (fun _ => ?_) (fun h => by cases h)
    refine aU ?_
    refine E_stS hS rfl (xv := a6r ⟨5, 0, 0, 0, place, 0, 0, c, 0, [], 0, 0⟩) rfl Rp.here rfl rfl zqV (fun S hS => ?_)
    refine aU ?_
    refine f7 ?_
    refine aE ?_
    exact ⟨trivial, _, f6 (by rfl) (hS.at (.head _)) rfl, _, ⟨rfl, rfl⟩, hS.sub (List.sublist_cons_self _ _)⟩
  | false =>
    rw [if_neg zS]
    refine p5 ?_
    refine aU ?_
    rw [hd]
    refine aU ?_
    refine E_cs (t := false) rfl (fun h => by cases h) (fun _ => ?_)
    refine aU ?_
    refine E_cs (t := true) (by show AV.bool (decide (c >= 0)) = _; rw [hd]) (fun _ => ?_) (fun h => by cases h)
    refine aU ?_
    refine E_stS hS rfl (xv := a6r ⟨4, 0, place, 0, 0, 0, 0, c, 0, [], 0, 0⟩) rfl Rp.here rfl rfl zqV (fun S hS => ?_)
    refine aU ?_
    refine f7 ?_
    refine aE ?_
    exact ⟨trivial, _, f6 (by rfl) (hS.at (.head _)) rfl, _, ⟨rfl, rfl⟩, hS.sub (List.sublist_cons_self _ _)⟩
 ·have hd : decide (c >= 0) = false := decide_eq_false h0
  unfold t5; rw [if_neg h0]
  cases w with
  | true =>
    rw [if_pos rfl]
    refine p5 ?_
    refine aU ?_
    rw [hd]
    refine aU ?_
    refine E_cs (t := false) rfl (fun h => by cases h) (fun _ => ?_)
    refine aU ?_
    refine E_cs (t := false) (by show AV.bool (decide (c >= 0)) = _; rw [hd]) (fun h => by cases h) (fun _ => ?_)
    refine aU ?_
    refine E_cs (t := true) rfl (fun _ => ?_) (fun h => by cases h)
    refine aU ?_
    refine E_stS hS rfl (xv := a6r ⟨2, 0, i, 0, place, 0, 0, 0, 0, [], 0, 0⟩) rfl Rp.here rfl rfl zqV (fun S hS => ?_)
    refine aU ?_
    refine f7 ?_
    refine aE ?_
    exact ⟨trivial, _, f6 (by rfl) (hS.at (.head _)) rfl, _, ⟨rfl, rfl⟩, hS.sub (List.sublist_cons_self _ _)⟩
  | false =>
    rw [if_neg zS]
    refine p5 ?_
    refine aU ?_
    rw [hd]
    refine aU ?_
    refine E_cs (t := false) rfl (fun h => by cases h) (fun _ => ?_)
    refine aU ?_
    refine E_cs (t := false) (by show AV.bool (decide (c >= 0)) = _; rw [hd]) (fun h => by cases h) (fun _ => ?_)
    refine aU ?_
    refine E_cs (t := false) rfl (fun h => by cases h) (fun _ => ?_)
    refine aU ?_
    refine aE ?_
    refine aU ?_
    refine E_stS hS rfl (xv := a6r ⟨2, 0, place, 0, i, 0, 0, 0, 0, [], 0, 0⟩) rfl Rp.here rfl rfl zqV (fun S hS => ?_)
    refine aU ?_
    refine f7 ?_
    refine aE ?_
    exact ⟨trivial, _, f6 (by rfl) (hS.at (.head _)) rfl, _, ⟨rfl, rfl⟩, hS.sub (List.sublist_cons_self _ _)⟩
theorem j8 {c i place : Int} {w : Bool} : (t5 c i place w).Args = [] := by
 unfold t5; split <;> split <;> rfl
theorem a7h {i place c : Int} {w : Bool} (hc : w9 none cs 2 = some (.ref cl 0 0 cell.length none)) (hi : j9 cell i = some c) :
  Tri Try.prog 88 [.ptr b 0 0, .int .i64 i, .int .i64 place, .bool w] [(b, 0, cs), (cl, 0, flat (avI .i64) cell)] (fun x L' => x = b8.av (t5 c i place w) /\ L' = [(b, 0, cs), (cl, 0, flat (avI .i64) cell)]) :=
 (a3N hc hi).weakr (b4e j8)
end
end Go.Proofs.Ytnpemocpfdgaoaa

/- build: a node, what comes ahead of its instruction and behind. -/
namespace Go.Proofs.Ytnpemocpfdgaoaa
open Go Go.Ab
set_option maxRecDepth 20000
set_option maxHeartbeats 2000000
def c2J : FC := .reg [⟨(some 3), none, .op (.box (.t 0))⟩,  ⟨(some 5), none, .op (.box (.t 2))⟩,  ⟨(some 6), none, .op (.new [(.int .u8 0), (.int .u8 0), (.int .i64 0), (.int .i64 0), (.int .i64 0), (.int .i64 0), (.int .i64 0), (.int .i64 0), (.int .u64 0), .nils, (.int .i64 0), (.int .i64 0)])⟩] []
def c2K : FC := .reg [⟨(some 13), none, .op (.load none (.t 3))⟩,  ⟨(some 14), none, .op (.nchk (.t 13))⟩,  ⟨(some 15), none, .op (.fad 1 (.t 14))⟩,  ⟨(some 16), none, .op (.load none (.t 15))⟩,  ⟨(some 17), none, .op (.nchk (.t 16))⟩,  ⟨(some 18), none, .op (.fad 4 (.t 17))⟩,  ⟨(some 19), none, .op (.load none (.t 18))⟩,  ⟨(some 20), none, .op (.mv (.t 1))⟩,  ⟨(some 21), none, .op (.iad none (some 3) (.t 19) (.t 20))⟩,  ⟨(some 22), none, .op (.load (some 3) (.t 21))⟩,  ⟨(some 7), none, .op (.new [(.int .u8 0), (.int .i64 0), (.int .u64 0)])⟩,  ⟨none, none, .op (.store 3 (.t 7) (.t 22))⟩] []
def c2L : FC := .reg [⟨(some 23), none, .op (.load none (.t 5))⟩,  ⟨(some 24), none, .op (.len .sl (.t 23))⟩,  ⟨(some 8), none, .op (.new [(.int .i64 0)])⟩,  ⟨none, none, .op (.store 1 (.t 8) (.t 24))⟩] []
def c2M : FC := .reg [⟨(some 25), none, .op (.mkf (.func 86) [] [(.t 3), (.t 8), (.t 5)])⟩,  ⟨(some 9), none, .op (.mv (.t 25))⟩] []
def c2N : FC := .reg [⟨(some 26), none, .op (.load none (.t 3))⟩,  ⟨(some 27), none, .op (.load none (.t 8))⟩,  ⟨(some 28), none, .call 87 [(.t 26), (.t 27), (.v (.int .u8 0))]⟩,  ⟨(some 10), none, .op (.mv (.t 28))⟩] []
def c2O : FC := .reg [⟨(some 29), none, .op (.build [(.int .u8 0), (.int .u8 0), (.int .i64 0), (.int .i64 0), (.int .i64 0), (.int .i64 0), (.int .i64 0), (.int .i64 0), (.int .u64 0), .nils, (.int .i64 0), (.int .i64 0)] [])⟩,  ⟨(some 11), none, .op (.new [(.int .u8 0), (.int .u8 0), (.int .i64 0), (.int .i64 0), (.int .i64 0), (.int .i64 0), (.int .i64 0), (.int .i64 0), (.int .u64 0), .nils, (.int .i64 0), (.int .i64 0)])⟩,  ⟨none, none, .op (.store 12 (.t 11) (.t 29))⟩] []
def c2P : FC := .reg [⟨(some 30), none, .op (.fad 0 (.t 7))⟩,  ⟨(some 31), none, .op (.load none (.t 30))⟩] []
def c2Q : FC := .reg [⟨(some 42), none, .op (.bin .none .eql (.t 31) (.v (.int .u8 1)))⟩,  ⟨(some 41), none, .op (.mv (.t 42))⟩] []
def c2R : FC := .reg [⟨(some 43), none, .op (.mv (.t 10))⟩,  ⟨(some 44), none, .op (.fad 2 (.t 7))⟩,  ⟨(some 45), none, .op (.load none (.t 44))⟩,  ⟨(some 46), none, .op (.build [(.int .u8 0), (.int .u8 0), (.int .i64 0), (.int .i64 0), (.int .i64 0), (.int .i64 0), (.int .i64 0), (.int .i64 0), (.int .u64 0), .nils, (.int .i64 0), (.int .i64 0)] [(0, 1, (.v (.int .u8 1))), (2, 1, (.t 43)), (8, 1, (.t 45))])⟩,  ⟨none, none, .op (.store 12 (.t 11) (.t 46))⟩] []
def b6T : FC := .reg [⟨(some 48), none, .op (.bin .none .eql (.t 31) (.v (.int .u8 2)))⟩,  ⟨(some 47), none, .op (.mv (.t 48))⟩] []
def b6U : FC := .reg [⟨(some 49), none, .op (.load none (.t 3))⟩,  ⟨(some 50), none, .op (.fad 1 (.t 7))⟩,  ⟨(some 51), none, .op (.load none (.t 50))⟩,  ⟨(some 52), none, .op (.load none (.t 3))⟩,  ⟨(some 53), none, .op (.load none (.t 8))⟩,  ⟨(some 54), none, .op (.load none (.t 3))⟩,  ⟨(some 55), none, .op (.nchk (.t 54))⟩,  ⟨(some 56), none, .op (.fad 1 (.t 55))⟩,  ⟨(some 57), none, .op (.load none (.t 56))⟩,  ⟨(some 58), none, .op (.nchk (.t 57))⟩,  ⟨(some 59), none, .op (.fad 1 (.t 58))⟩,  ⟨(some 60), none, .op (.load none (.t 59))⟩,  ⟨(some 61), none, .op (.fad 1 (.t 7))⟩,  ⟨(some 62), none, .op (.load none (.t 61))⟩,  ⟨(some 63), none, .op (.iad none none (.t 60) (.t 62))⟩,  ⟨(some 64), none, .op (.load none (.t 63))⟩,  ⟨(some 65), none, .call 87 [(.t 52), (.t 53), (.t 64)]⟩,  ⟨(some 66), none, .call 88 [(.t 49), (.t 51), (.t 65), (.v (.bool false))]⟩,  ⟨none, none, .op (.store 12 (.t 11) (.t 66))⟩] [(0, 16), (2, 16)]
def b6V : FC := .reg [⟨(some 68), none, .op (.bin .none .eql (.t 31) (.v (.int .u8 3)))⟩,  ⟨(some 67), none, .op (.mv (.t 68))⟩] []
def b6W : FC := .reg [⟨(some 69), none, .op (.load none (.t 3))⟩,  ⟨(some 70), none, .op (.fad 1 (.t 7))⟩,  ⟨(some 71), none, .op (.load none (.t 70))⟩,  ⟨(some 72), none, .op (.mv (.t 9))⟩,  ⟨(some 73), none, .callv (.t 72) [(.v (.int .i64 1))]⟩,  ⟨(some 74), none, .call 88 [(.t 69), (.t 71), (.t 73), (.v (.bool true))]⟩,  ⟨none, none, .op (.store 12 (.t 11) (.t 74))⟩] [(0, 4), (2, 4)]
def b6X : FC := .reg [⟨(some 76), none, .op (.bin .none .eql (.t 31) (.v (.int .u8 4)))⟩,  ⟨(some 75), none, .op (.mv (.t 76))⟩] []
def b6Y : FC := .reg [⟨(some 77), none, .op (.load none (.t 3))⟩,  ⟨(some 78), none, .op (.load none (.t 8))⟩,  ⟨(some 79), none, .call 87 [(.t 77), (.t 78), (.v (.int .u8 1))]⟩,  ⟨(some 80), none, .op (.load none (.t 3))⟩,  ⟨(some 81), none, .op (.nchk (.t 80))⟩,  ⟨(some 82), none, .op (.fad 2 (.t 81))⟩,  ⟨(some 83), none, .op (.load none (.t 82))⟩,  ⟨(some 84), none, .op (.fad 1 (.t 7))⟩,  ⟨(some 85), none, .op (.load none (.t 84))⟩,  ⟨(some 86), none, .op (.iad none none (.t 83) (.t 85))⟩,  ⟨(some 87), none, .op (.load none (.t 86))⟩,  ⟨(some 88), none, .op (.build [(.int .u8 0), (.int .u8 0), (.int .i64 0), (.int .i64 0), (.int .i64 0), (.int .i64 0), (.int .i64 0), (.int .i64 0), (.int .u64 0), .nils, (.int .i64 0), (.int .i64 0)] [(0, 1, (.v (.int .u8 6))), (2, 1, (.t 79)), (7, 1, (.t 87))])⟩,  ⟨none, none, .op (.store 12 (.t 11) (.t 88))⟩] [(2, 3), (2, 6), (2, 8), (2, 10)]
def b6Z : FC := .reg [⟨(some 90), none, .op (.bin .none .eql (.t 31) (.v (.int .u8 5)))⟩,  ⟨(some 89), none, .op (.mv (.t 90))⟩] []
def b7a : FC := .reg [⟨(some 91), none, .op (.load none (.t 3))⟩,  ⟨(some 92), none, .op (.load none (.t 8))⟩,  ⟨(some 93), none, .op (.bin .none .sub (.t 92) (.v (.int .i64 1)))⟩,  ⟨(some 94), none, .call 87 [(.t 91), (.t 93), (.v (.int .u8 0))]⟩,  ⟨(some 95), none, .op (.mv (.t 9))⟩,  ⟨(some 96), none, .callv (.t 95) [(.v (.int .i64 1))]⟩,  ⟨(some 97), none, .op (.build [(.int .u8 0), (.int .u8 0), (.int .i64 0), (.int .i64 0), (.int .i64 0), (.int .i64 0), (.int .i64 0), (.int .i64 0), (.int .u64 0), .nils, (.int .i64 0), (.int .i64 0)] [(0, 1, (.v (.int .u8 7))), (2, 1, (.t 94)), (4, 1, (.t 96))])⟩,  ⟨none, none, .op (.store 12 (.t 11) (.t 97))⟩] []
def b7b : FC := .reg [⟨(some 99), none, .op (.bin .none .eql (.t 31) (.v (.int .u8 6)))⟩,  ⟨(some 98), none, .op (.mv (.t 99))⟩] []
def b7c : FC := .reg [⟨(some 100), none, .op (.mv (.t 9))⟩,  ⟨(some 101), none, .callv (.t 100) [(.v (.int .i64 2))]⟩,  ⟨(some 102), none, .op (.mv (.t 9))⟩,  ⟨(some 103), none, .callv (.t 102) [(.v (.int .i64 1))]⟩,  ⟨(some 104), none, .op (.build [(.int .u8 0), (.int .u8 0), (.int .i64 0), (.int .i64 0), (.int .i64 0), (.int .i64 0), (.int .i64 0), (.int .i64 0), (.int .u64 0), .nils, (.int .i64 0), (.int .i64 0)] [(0, 1, (.v (.int .u8 8))), (4, 1, (.t 101)), (5, 1, (.t 103))])⟩,  ⟨none, none, .op (.store 12 (.t 11) (.t 104))⟩] []
def b7d : FC := .reg [⟨(some 106), none, .op (.bin .none .eql (.t 31) (.v (.int .u8 21)))⟩,  ⟨(some 105), none, .op (.mv (.t 106))⟩] []
def b7e : FC := .reg [⟨(some 107), none, .op (.bin .none .eql (.t 31) (.v (.int .u8 31)))⟩,  ⟨(some 105), none, .op (.mv (.t 107))⟩] []
def b7f : FC := .cond (.t 105) FC.skip b7e
def b7g : FC := .seq b7d b7f
def b7h : FC := .reg [⟨(some 108), none, .op (.build [(.int .u8 0), (.int .u8 0), (.int .i64 0), (.int .i64 0), (.int .i64 0), (.int .i64 0), (.int .i64 0), (.int .i64 0), (.int .u64 0), .nils, (.int .i64 0), (.int .i64 0)] [(0, 1, (.v (.int .u8 10)))])⟩,  ⟨none, none, .op (.store 12 (.t 11) (.t 108))⟩] []
def b7i : FC := .reg [⟨(some 110), none, .op (.bin .none .eql (.t 31) (.v (.int .u8 22)))⟩,  ⟨(some 109), none, .op (.mv (.t 110))⟩] []
def b7j : FC := .reg [⟨(some 111), none, .op (.mv (.t 9))⟩,  ⟨(some 112), none, .callv (.t 111) [(.v (.int .i64 1))]⟩,  ⟨(some 113), none, .op (.fad 1 (.t 7))⟩,  ⟨(some 114), none, .op (.load none (.t 113))⟩,  ⟨(some 115), none, .op (.build [(.int .u8 0), (.int .u8 0), (.int .i64 0), (.int .i64 0), (.int .i64 0), (.int .i64 0), (.int .i64 0), (.int .i64 0), (.int .u64 0), .nils, (.int .i64 0), (.int .i64 0)] [(0, 1, (.v (.int .u8 9))), (4, 1, (.t 112)), (11, 1, (.t 114))])⟩,  ⟨none, none, .op (.store 12 (.t 11) (.t 115))⟩] [(1, 3)]
def b7k : FC := .reg [⟨(some 117), none, .op (.bin .none .eql (.t 31) (.v (.int .u8 23)))⟩,  ⟨(some 116), none, .op (.mv (.t 117))⟩] []
def b7l : FC := .reg [⟨(some 118), none, .op (.load none (.t 3))⟩,  ⟨(some 119), none, .op (.nchk (.t 118))⟩,  ⟨(some 120), none, .op (.fad 0 (.t 119))⟩,  ⟨(some 121), none, .op (.load none (.t 120))⟩,  ⟨(some 122), none, .op (.nchk (.t 121))⟩,  ⟨(some 123), none, .op (.fad 0 (.t 122))⟩,  ⟨(some 124), none, .op (.load none (.t 123))⟩,  ⟨(some 125), none, .op (.fad 1 (.t 7))⟩,  ⟨(some 126), none, .op (.load none (.t 125))⟩,  ⟨(some 127), none, .op (.iad none (some 5) (.t 124) (.t 126))⟩,  ⟨(some 128), none, .op (.load (some 5) (.t 127))⟩,  ⟨(some 12), none, .op (.new [(.int .i64 0), .nils, (.bool false), (.int .i64 0), .nils])⟩,  ⟨none, none, .op (.store 5 (.t 12) (.t 128))⟩] [(0, 11), (3, 11), (6, 11), (8, 11), (10, 11)]
def b7m : FC := .reg [⟨(some 129), none, .op (.fad 1 (.t 7))⟩,  ⟨(some 130), none, .op (.load none (.t 129))⟩,  ⟨(some 131), none, .op (.load none (.t 3))⟩,  ⟨(some 132), none, .op (.load none (.t 5))⟩,  ⟨(some 133), none, .op (.fad 1 (.t 7))⟩,  ⟨(some 134), none, .op (.load none (.t 133))⟩,  ⟨(some 135), none, .call 89 [(.t 131), (.t 132), (.t 134)]⟩,  ⟨(some 136), none, .op (.build [(.int .u8 0), (.int .u8 0), (.int .i64 0), (.int .i64 0), (.int .i64 0), (.int .i64 0), (.int .i64 0), (.int .i64 0), (.int .u64 0), .nils, (.int .i64 0), (.int .i64 0)] [(0, 1, (.v (.int .u8 11))), (6, 1, (.t 130)), (9, 1, (.t 135)), (2, 1, (.v (.int .i64 (-1))))])⟩,  ⟨none, none, .op (.store 12 (.t 11) (.t 136))⟩] [(1, 6)]
def b7n : FC := .reg [⟨(some 137), none, .op (.fad 2 (.t 12))⟩,  ⟨(some 138), none, .op (.load none (.t 137))⟩] []
def b7o : FC := .reg [⟨(some 139), none, .op (.load none (.t 3))⟩,  ⟨(some 140), none, .op (.load none (.t 8))⟩,  ⟨(some 141), none, .op (.fad 0 (.t 12))⟩,  ⟨(some 142), none, .op (.load none (.t 141))⟩,  ⟨(some 143), none, .op (.bin .none .sub (.t 140) (.t 142))⟩,  ⟨(some 144), none, .call 87 [(.t 139), (.t 143), (.v (.int .u8 0))]⟩,  ⟨(some 145), none, .op (.fad 2 (.t 11))⟩,  ⟨none, none, .op (.store 1 (.t 145) (.t 144))⟩] []
def b7p : FC := .cond (.t 138) b7o FC.skip
def b7q : FC := .seq b7n b7p
def b7r : FC := .seq b7m b7q
def b7s : FC := .seq b7l b7r
def b7t : FC := .reg [⟨(some 147), none, .op (.bin .none .eql (.t 31) (.v (.int .u8 25)))⟩,  ⟨(some 146), none, .op (.mv (.t 147))⟩] []
def b7u : FC := .reg [⟨(some 148), none, .op (.fad 1 (.t 7))⟩,  ⟨(some 149), none, .op (.load none (.t 148))⟩,  ⟨(some 150), none, .op (.load none (.t 3))⟩,  ⟨(some 151), none, .op (.load none (.t 5))⟩,  ⟨(some 152), none, .op (.fad 1 (.t 7))⟩,  ⟨(some 153), none, .op (.load none (.t 152))⟩,  ⟨(some 154), none, .call 89 [(.t 150), (.t 151), (.t 153)]⟩,  ⟨(some 155), none, .op (.build [(.int .u8 0), (.int .u8 0), (.int .i64 0), (.int .i64 0), (.int .i64 0), (.int .i64 0), (.int .i64 0), (.int .i64 0), (.int .u64 0), .nils, (.int .i64 0), (.int .i64 0)] [(0, 1, (.v (.int .u8 13))), (6, 1, (.t 149)), (9, 1, (.t 154))])⟩,  ⟨none, none, .op (.store 12 (.t 11) (.t 155))⟩] [(1, 6)]
def b7v : FC := .reg [⟨(some 157), none, .op (.bin .none .eql (.t 31) (.v (.int .u8 24)))⟩,  ⟨(some 156), none, .op (.mv (.t 157))⟩] []
def b7w : FC := .reg [⟨(some 158), none, .op (.build [(.int .u8 0), (.int .u8 0), (.int .i64 0), (.int .i64 0), (.int .i64 0), (.int .i64 0), (.int .i64 0), (.int .i64 0), (.int .u64 0), .nils, (.int .i64 0), (.int .i64 0)] [(0, 1, (.v (.int .u8 12))), (4, 1, (.v (.int .i64 (-1))))])⟩,  ⟨none, none, .op (.store 12 (.t 11) (.t 158))⟩] []
def b7x : FC := .reg [⟨(some 159), none, .op (.load none (.t 3))⟩,  ⟨(some 160), none, .op (.nchk (.t 159))⟩,  ⟨(some 161), none, .op (.fad 1 (.t 160))⟩,  ⟨(some 162), none, .op (.load none (.t 161))⟩,  ⟨(some 163), none, .op (.nchk (.t 162))⟩,  ⟨(some 164), none, .op (.fad 2 (.t 163))⟩,  ⟨(some 165), none, .op (.load none (.t 164))⟩] []
def b7y : FC := .reg [⟨(some 166), none, .op (.mv (.t 9))⟩,  ⟨(some 167), none, .callv (.t 166) [(.v (.int .i64 1))]⟩,  ⟨(some 168), none, .op (.fad 4 (.t 11))⟩,  ⟨none, none, .op (.store 1 (.t 168) (.t 167))⟩] []
def b7z : FC := .cond (.t 165) b7y FC.skip
def b7A : FC := .seq b7x b7z
def b7B : FC := .seq b7w b7A
def b7C : FC := .reg [⟨(some 170), none, .op (.bin .none .eql (.t 31) (.v (.int .u8 26)))⟩,  ⟨(some 169), none, .op (.mv (.t 170))⟩] []
def b7D : FC := .reg [⟨(some 171), none, .op (.mv (.t 9))⟩,  ⟨(some 172), none, .callv (.t 171) [(.v (.int .i64 1))]⟩,  ⟨(some 173), none, .op (.build [(.int .u8 0), (.int .u8 0), (.int .i64 0), (.int .i64 0), (.int .i64 0), (.int .i64 0), (.int .i64 0), (.int .i64 0), (.int .u64 0), .nils, (.int .i64 0), (.int .i64 0)] [(0, 1, (.v (.int .u8 14))), (4, 1, (.t 172))])⟩,  ⟨none, none, .op (.store 12 (.t 11) (.t 173))⟩] []
def b7E : FC := .reg [⟨(some 175), none, .op (.bin .none .eql (.t 31) (.v (.int .u8 27)))⟩,  ⟨(some 174), none, .op (.mv (.t 175))⟩] []
def b7F : FC := .reg [⟨(some 176), none, .op (.mv (.t 10))⟩,  ⟨(some 177), none, .op (.load none (.t 3))⟩,  ⟨(some 178), none, .op (.load none (.t 8))⟩,  ⟨(some 179), none, .op (.bin .none .add (.t 178) (.v (.int .i64 1)))⟩,  ⟨(some 180), none, .call 87 [(.t 177), (.t 179), (.v (.int .u8 0))]⟩,  ⟨(some 181), none, .op (.build [(.int .u8 0), (.int .u8 0), (.int .i64 0), (.int .i64 0), (.int .i64 0), (.int .i64 0), (.int .i64 0), (.int .i64 0), (.int .u64 0), .nils, (.int .i64 0), (.int .i64 0)] [(0, 1, (.v (.int .u8 15))), (2, 1, (.t 176)), (3, 1, (.t 180))])⟩,  ⟨none, none, .op (.store 12 (.t 11) (.t 181))⟩] []
def b7G : FC := .reg [⟨(some 183), none, .op (.bin .none .eql (.t 31) (.v (.int .u8 28)))⟩,  ⟨(some 182), none, .op (.mv (.t 183))⟩] []
def b7H : FC := .reg [⟨(some 184), none, .op (.mv (.t 10))⟩,  ⟨(some 185), none, .op (.build [(.int .u8 0), (.int .u8 0), (.int .i64 0), (.int .i64 0), (.int .i64 0), (.int .i64 0), (.int .i64 0), (.int .i64 0), (.int .u64 0), .nils, (.int .i64 0), (.int .i64 0)] [(0, 1, (.v (.int .u8 16))), (2, 1, (.t 184))])⟩,  ⟨none, none, .op (.store 12 (.t 11) (.t 185))⟩] []
def b7I : FC := .reg [⟨(some 187), none, .op (.bin .none .eql (.t 31) (.v (.int .u8 29)))⟩,  ⟨(some 186), none, .op (.mv (.t 187))⟩] []
def b7J : FC := .reg [⟨(some 188), none, .op (.mv (.t 9))⟩,  ⟨(some 189), none, .callv (.t 188) [(.v (.int .i64 1))]⟩,  ⟨(some 190), none, .op (.build [(.int .u8 0), (.int .u8 0), (.int .i64 0), (.int .i64 0), (.int .i64 0), (.int .i64 0), (.int .i64 0), (.int .i64 0), (.int .u64 0), .nils, (.int .i64 0), (.int .i64 0)] [(0, 1, (.v (.int .u8 17))), (4, 1, (.t 189))])⟩,  ⟨none, none, .op (.store 12 (.t 11) (.t 190))⟩] []
def b7K : FC := .reg [⟨(some 192), none, .op (.bin .none .eql (.t 31) (.v (.int .u8 30)))⟩,  ⟨(some 191), none, .op (.mv (.t 192))⟩] []
def b7L : FC := .reg [⟨(some 193), none, .op (.mv (.t 9))⟩,  ⟨(some 194), none, .callv (.t 193) [(.v (.int .i64 1))]⟩,  ⟨(some 195), none, .op (.build [(.int .u8 0), (.int .u8 0), (.int .i64 0), (.int .i64 0), (.int .i64 0), (.int .i64 0), (.int .i64 0), (.int .i64 0), (.int .u64 0), .nils, (.int .i64 0), (.int .i64 0)] [(0, 1, (.v (.int .u8 18))), (4, 1, (.t 194))])⟩,  ⟨none, none, .op (.store 12 (.t 11) (.t 195))⟩] []
def b7M : FC := .reg [⟨(some 197), none, .op (.bin .none .eql (.t 31) (.v (.int .u8 32)))⟩,  ⟨(some 196), none, .op (.mv (.t 197))⟩] []
def b7N : FC := .reg [⟨(some 198), none, .op (.load none (.t 3))⟩,  ⟨(some 199), none, .op (.load none (.t 8))⟩,  ⟨(some 200), none, .op (.load none (.t 5))⟩,  ⟨(some 201), none, .op (.load none (.t 8))⟩,  ⟨(some 202), none, .op (.bin .none .sub (.t 201) (.v (.int .i64 1)))⟩,  ⟨(some 203), none, .op (.iad none none (.t 200) (.t 202))⟩,  ⟨(some 204), none, .op (.load none (.t 203))⟩,  ⟨(some 205), none, .call 87 [(.t 198), (.t 199), (.t 204)]⟩,  ⟨(some 206), none, .op (.mv (.t 9))⟩,  ⟨(some 207), none, .callv (.t 206) [(.v (.int .i64 1))]⟩,  ⟨(some 208), none, .op (.build [(.int .u8 0), (.int .u8 0), (.int .i64 0), (.int .i64 0), (.int .i64 0), (.int .i64 0), (.int .i64 0), (.int .i64 0), (.int .u64 0), .nils, (.int .i64 0), (.int .i64 0)] [(0, 1, (.v (.int .u8 2))), (2, 1, (.t 205)), (4, 1, (.t 207))])⟩,  ⟨none, none, .op (.store 12 (.t 11) (.t 208))⟩] []
def b7O : FC := .reg [⟨(some 32), none, .op (.fad 0 (.t 7))⟩,  ⟨(some 33), none, .op (.load none (.t 32))⟩,  ⟨(some 34), none, .op (.mv (.t 9))⟩,  ⟨(some 35), none, .callv (.t 34) [(.v (.int .i64 2))]⟩,  ⟨(some 36), none, .op (.mv (.t 9))⟩,  ⟨(some 37), none, .callv (.t 36) [(.v (.int .i64 2))]⟩,  ⟨(some 38), none, .op (.mv (.t 9))⟩,  ⟨(some 39), none, .callv (.t 38) [(.v (.int .i64 1))]⟩,  ⟨(some 40), none, .op (.build [(.int .u8 0), (.int .u8 0), (.int .i64 0), (.int .i64 0), (.int .i64 0), (.int .i64 0), (.int .i64 0), (.int .i64 0), (.int .u64 0), .nils, (.int .i64 0), (.int .i64 0)] [(0, 1, (.v (.int .u8 3))), (1, 1, (.t 33)), (2, 1, (.t 35)), (4, 1, (.t 37)), (5, 1, (.t 39))])⟩,  ⟨none, none, .op (.store 12 (.t 11) (.t 40))⟩] [(1, 3), (1, 5), (1, 7)]
def b7P : FC := .cond (.t 196) b7N b7O
def b7Q : FC := .seq b7M b7P
def b7R : FC := .cond (.t 191) b7L b7Q
def b7S : FC := .seq b7K b7R
def b7T : FC := .cond (.t 186) b7J b7S
def b7U : FC := .seq b7I b7T
def b7V : FC := .cond (.t 182) b7H b7U
def b7W : FC := .seq b7G b7V
def b7X : FC := .cond (.t 174) b7F b7W
def b7Y : FC := .seq b7E b7X
def b7Z : FC := .cond (.t 169) b7D b7Y
def b8a : FC := .seq b7C b7Z
def b8b : FC := .cond (.t 156) b7B b8a
def b8c : FC := .seq b7v b8b
def b8d : FC := .cond (.t 146) b7u b8c
def b8e : FC := .seq b7t b8d
def b8f : FC := .cond (.t 116) b7s b8e
def b8g : FC := .seq b7k b8f
def b8h : FC := .cond (.t 109) b7j b8g
def b8i : FC := .seq b7i b8h
def b8j : FC := .cond (.t 105) b7h b8i
def b8k : FC := .seq b7g b8j
def b8l : FC := .cond (.t 98) b7c b8k
def b8m : FC := .seq b7b b8l
def b8n : FC := .cond (.t 89) b7a b8m
def b8o : FC := .seq b6Z b8n
def b8p : FC := .cond (.t 75) b6Y b8o
def b8q : FC := .seq b6X b8p
def b8r : FC := .cond (.t 67) b6W b8q
def b8s : FC := .seq b6V b8r
def b8t : FC := .cond (.t 47) b6U b8s
def b8u : FC := .seq b6T b8t
def b8v : FC := .cond (.t 41) c2R b8u
def b3g : FC := .seq c2Q b8v
def b8w : FC := .block 0 b3g
def b8x : FC := .seq c2P b8w
def b8y : FC := .reg [⟨(some 209), none, .op (.mv (.t 1))⟩,  ⟨(some 210), none, .op (.bin .none .add (.t 209) (.v (.int .i64 1)))⟩,  ⟨(some 211), none, .op (.load none (.t 3))⟩,  ⟨(some 212), none, .op (.nchk (.t 211))⟩,  ⟨(some 213), none, .op (.fad 1 (.t 212))⟩,  ⟨(some 214), none, .op (.load none (.t 213))⟩,  ⟨(some 215), none, .op (.nchk (.t 214))⟩,  ⟨(some 216), none, .op (.fad 4 (.t 215))⟩,  ⟨(some 217), none, .op (.load none (.t 216))⟩,  ⟨(some 218), none, .op (.len .sl (.t 217))⟩,  ⟨(some 219), none, .op (.bin .none .sub (.t 218) (.v (.int .i64 1)))⟩,  ⟨(some 220), none, .op (.mn false (.t 210) (.t 219))⟩,  ⟨(some 221), none, .op (.fad 10 (.t 11))⟩,  ⟨none, none, .op (.store 1 (.t 221) (.t 220))⟩] []
def b8z : FC := .reg [⟨(some 222), none, .op (.fad 0 (.t 7))⟩,  ⟨(some 223), none, .op (.load none (.t 222))⟩,  ⟨(some 224), none, .op (.bin .none .eql (.t 223) (.v (.int .u8 21)))⟩] []
def b8A : FC := .reg [⟨(some 225), none, .op (.fad 1 (.t 7))⟩,  ⟨(some 226), none, .op (.load none (.t 225))⟩,  ⟨(some 227), none, .op (.fad 10 (.t 11))⟩,  ⟨none, none, .op (.store 1 (.t 227) (.t 226))⟩] []
def b8B : FC := .cond (.t 224) b8A FC.skip
def b8C : FC := .seq b8z b8B
def b8D : FC := .reg [⟨(some 228), none, .op (.load (some 12) (.t 11))⟩,  ⟨none, none, .op (.store 12 (.t 6) (.t 228))⟩] []
def b4f : FC := .seq b8D FC.ret
def b4g : FC := .seq b8C b4f
def a7U : FC := .seq b8y b4g
def b4h : FC := .seq b8x a7U
def b4i : FC := .seq c2O b4h
def b4j : FC := .seq c2N b4i
def b4k : FC := .seq c2M b4j
def b4l : FC := .seq c2L b4k
def b4m : FC := .seq c2K b4l
def b4n : FC := .seq c2J b4m
def c6v : FC := b4n
theorem a1D : Fn3 Try.prog 54 229 [(6, (some (some 12)))] c6v := ⟨_, _, Try.func54, rfl, rfl, rfl, by kernel_rfl⟩

abbrev nX (a : AV) (n : b8) : List AV := [.int .u8 n.Op, .int .u8 n.By, .int .i64 n.D, .int .i64 n.E, .int .i64 n.A, .int .i64 n.B, .int .i64 n.F, .int .i64 n.Cell, .int .u64 n.Imm, a, .int .i64 n.Next, .int .i64 n.Else]
theorem a5s {a : AV} {n : b8} (h : AVw a (.sl false 1 (n.Args.map (avI .i64)))) : AVw (.agg (nX a n)) (b8.av n) := by
 unfold b8.av b8.cells
 refine .agg rfl fun j h1 h2 => ?_
 match j, h1 with
 | 0, _ => exact .refl _
 | 1, _ => exact .refl _
 | 2, _ => exact .refl _
 | 3, _ => exact .refl _
 | 4, _ => exact .refl _
 | 5, _ => exact .refl _
 | 6, _ => exact .refl _
 | 7, _ => exact .refl _
 | 8, _ => exact .refl _
 | 9, _ => exact h
 | 10, _ => exact .refl _
 | 11, _ => exact .refl _
abbrev zN : b8 := ⟨0, 0, 0, 0, 0, 0, 0, 0, 0, [], 0, 0⟩
abbrev nLs (b cl o3 o5 o6 o7 o8 o11 : Nat) (cs : List AV) (cell s : List Int) (i : Instr) (a : AV) (n : b8) (R : List It) : List It :=
 (o11, 0, nX a n) :: (o8, 0, [.int .i64 s.length]) :: (o7, 0, i.cells) :: (o6, 0, nX .nils zN) :: (o5, 0, [.sl false 1 (s.map (avI .u8))]) :: (o3, 0, [.ptr b 0 0]) :: (b, 0, cs) :: (cl, 0, flat (avI .i64) cell) :: R
def c7u (o3 o8 o5 : Nat) : AV := .fn (.func 86) [] [.ptr o3 0 0, .ptr o8 0 0, .ptr o5 0 0]
abbrev nF (o3 o5 o6 o7 o8 o11 : Nat) (at_ : Int) (f : Func) (s : List Int) : Fr := [(1, .int .i64 at_), (3, .ptr o3 0 0), (5, .ptr o5 0 0), (6, .ptr o6 0 0), (7, .ptr o7 0 0), (8, .ptr o8 0 0), (9, c7u o3 o8 o5), (10, .int .i64 (i9 f s.length 0)), (11, .ptr o11 0 0)]
def o9 (f : Func) (at_ : Int) (i : Instr) : Int := if i.Op = 21 then i.Arg else min (at_ + 1) ((f.Code.length : Int) - 1)
section
variable {p : Program} {f : Func} {b cl : Nat} {cs : List AV} {cell s : List Int} {at_ : Int} {i : Instr}
theorem j4 {R : List It} {S : List Ob} {K : Post} (hf : w9 none cs 1 = some (.cptr (Func.cells f) 0)) (hl : f.Locals.length < 1000000) (hs : s.length < 1000000) (hi : j9 f.Code at_ = some i) (hS : Ab.Sep S ((b, 0, cs) :: (cl, 0, flat (avI .i64) cell) :: R))
  (h : ∀ o3 o5 o6 o7 o8 o11 S', Ab.Sep S' (nLs b cl o3 o5 o6 o7 o8 o11 cs cell s i .nils zN R) -> VT Try.prog S [3, 5, 6, 7, 8, 11, 12] b3g ((31, .int .u8 i.Op) :: nF o3 o5 o6 o7 o8 o11 at_ f s) S' (Post.blk 0 (Post.thn (fun fr' S' => ∃ F T, Wk S fr' S' F T /\ VT Try.prog S [3, 5, 6, 7, 8, 11, 12] a7U F T K) K))) :
  VT Try.prog S [3, 5, 6, 7, 8, 11, 12] c6v (a1h 0 [.ptr b 0 0, .int .i64 at_, .sl false 1 (s.map (avI .u8))]) S K := by
 have hS0 := hS
 refine aU ?_
 refine a3J hS rfl (xv := .ptr b 0 0) rfl rfl (fun o3 S hS => ?_)
 refine aU ?_
 refine a3J hS rfl (xv := .sl false 1 (s.map (avI .u8))) rfl rfl (fun o5 S hS => ?_)
 refine aU ?_
 refine z7 hS rfl (fun o6 S hS => ?_)
 refine aU ?_
 refine b7 hS rfl (.tail _ (.tail _ (.head _))) (v := .ptr b 0 0) rfl ?_
 refine aU ?_
 refine b7 hS rfl (.tail _ (.tail _ (.tail _ (.head _)))) (v := .cptr (Func.cells f) 0) hf ?_
 refine aU ?_
 refine g8 (esh := some 3) (f := Instr.av) (ys := f.Code) (y := i) rfl rfl hi ?_
 refine aU ?_
 refine z7 hS rfl (fun o7 S hS => ?_)
 refine aU ?_
 refine E_stS hS rfl (xv := i.av) rfl Rp.here rfl rfl zqV (fun S hS => ?_)
 refine aU ?_
 refine b7 hS rfl (.tail _ (.tail _ (.head _))) (v := .sl false 1 (s.map (avI .u8))) rfl ?_
 refine aU ?_
 refine z7 hS rfl (fun o8 S hS => ?_)
 refine aU ?_
 refine E_stS hS rfl (xv := .int .i64 s.length) rfl Rp.here rfl rfl zqV (fun S hS => ?_)
 refine aU ?_
 refine b7 hS rfl (.tail _ (.tail _ (.tail _ (.tail _ (.head _))))) (v := .ptr b 0 0) rfl ?_
 refine aU ?_
 refine b7 hS rfl (.head _) (v := .int .i64 s.length) rfl ?_
 refine aU ?_
 refine a7f (w7 (d := s.length) (k := 0) hf hl zO zO) hS rfl (Spl.cons (Pk.there (Pk.there (Pk.there (Pk.there (Pk.there Pk.here))))) Spl.nil) ?_
 refine aU ?_
 refine z7 hS rfl (fun o11 S hS => ?_)
 refine aU ?_
 refine E_stS hS rfl (xv := .agg (nX .nils zN)) rfl Rp.here rfl rfl zqV (fun S hS => ?_)
 refine aU ?_
 refine b7 hS rfl (.tail _ (.tail _ (.head _))) (v := .int .u8 i.Op) rfl ?_
 refine a7 ?_
 refine s9 (F := (31, .int .u8 i.Op) :: nF o3 o5 o6 o7 o8 o11 at_ f s) wF ?_
 exact c7 (p5 (h o3 o5 o6 o7 o8 o11 _ hS))
theorem g7 {R : List It} {S0 S : List Ob} {K : Post} {o3 o5 o6 o7 o8 o11 : Nat} {a : AV} {n : b8} (ha : a.cells = [a] /\ AV.one a = true) (hf : w9 none cs 1 = some (.cptr (Func.cells f) 0)) (hc : f.Code.length < 1000000) (hat : 0 <= at_ /\ at_ < 1000000) (hS : Ab.Sep S (nLs b cl o3 o5 o6 o7 o8 o11 cs cell s i a n R))
  (hK : ∀ S', Ab.Sep S' ((o6, 0, nX a { n with Next := o9 f at_ i }) :: (b, 0, cs) :: (cl, 0, flat (avI .i64) cell) :: R) -> ∀ fr', Fr.get fr' 6 = .ptr o6 0 0 -> K .ret fr' S') :
  VT Try.prog S0 [3, 5, 6, 7, 8, 11, 12] a7U (nF o3 o5 o6 o7 o8 o11 at_ f s) S K := by
 refine aU ?_
 refine b7 hS rfl (.tail _ (.tail _ (.tail _ (.tail _ (.tail _ (.head _)))))) (v := .ptr b 0 0) rfl ?_
 refine aU ?_
 refine b7 hS rfl (.tail _ (.tail _ (.tail _ (.tail _ (.tail _ (.tail _ (.head _))))))) (v := .cptr (Func.cells f) 0) hf ?_
 refine aU ?_
 have hmin : (if IntKind.i64.wrap ((f.Code.length : Int) - 1) < IntKind.i64.wrap (at_ + 1) then IntKind.i64.wrap ((f.Code.length : Int) - 1) else IntKind.i64.wrap (at_ + 1)) = min (at_ + 1) ((f.Code.length : Int) - 1) := by
  rw [p4 zO, p4 zO]; split <;> omega
 refine E_stS hS rfl (xv := .int .i64 (min (at_ + 1) ((f.Code.length : Int) - 1))) (by show AV.int .i64 (if false = true then _ else (if IntKind.i64.wrap ((f.Code.length : Int) - 1) < IntKind.i64.wrap (at_ + 1) then IntKind.i64.wrap ((f.Code.length : Int) - 1) else IntKind.i64.wrap (at_ + 1))) = _; rw [hmin]; rfl) Rp.here rfl rfl zqV (fun S hS => ?_)
 have hS2 : Ab.Sep S (nLs b cl o3 o5 o6 o7 o8 o11 cs cell s i a { n with Next := min (at_ + 1) ((f.Code.length : Int) - 1) } R) := hS
 clear hS
 have hS := hS2
 clear hS2
 refine aU ?_
 refine b7 hS rfl (.tail _ (.tail _ (.head _))) (v := .int .u8 i.Op) rfl ?_
 refine aU ?_
 refine E_cs (t := i.Op == 21) rfl (fun h => ?_) (fun h => ?_)
 ·have hn : o9 f at_ i = i.Arg := by unfold o9; rw [if_pos (by simpa using h)]
  rw [hn] at hK
  refine aU ?_
  refine b7 hS rfl (.tail _ (.tail _ (.head _))) (v := .int .i64 i.Arg) rfl ?_
  refine aU ?_
  refine E_stS hS rfl (xv := .int .i64 i.Arg) rfl Rp.here rfl rfl zqV (fun S hS => ?_)
  refine aU ?_
  refine b7 hS rfl (.head _) (v := .agg (nX a { n with Next := i.Arg })) rfl ?_
  refine aU ?_
  refine E_stS hS rfl (xv := .agg (nX a { n with Next := i.Arg })) rfl (Rp.there (Rp.there (Rp.there Rp.here))) rfl (by simp only [AV.cells, List.all_cons, List.all_nil, ha.2, Bool.and_true]; rfl) zqV (fun S hS => ?_)
  refine aU ?_
  refine f7 ?_
  refine aE ?_
  exact hK _ (hS.sub (.cons _ (.cons _ (.cons _ (.cons_cons _ (.cons _ (.cons _ (List.Sublist.refl _)))))))) _ rfl
 ·have hn : o9 f at_ i = min (at_ + 1) ((f.Code.length : Int) - 1) := by unfold o9; rw [if_neg (by simpa using h)]
  rw [hn] at hK
  refine aU ?_
  refine b7 hS rfl (.head _) (v := .agg (nX a { n with Next := min (at_ + 1) ((f.Code.length : Int) - 1) })) rfl ?_
  refine aU ?_
  refine E_stS hS rfl (xv := .agg (nX a { n with Next := min (at_ + 1) ((f.Code.length : Int) - 1) })) rfl (Rp.there (Rp.there (Rp.there Rp.here))) rfl (by simp only [AV.cells, List.all_cons, List.all_nil, ha.2, Bool.and_true]; rfl) zqV (fun S hS => ?_)
  refine aU ?_
  refine f7 ?_
  refine aE ?_
  exact hK _ (hS.sub (.cons _ (.cons _ (.cons _ (.cons_cons _ (.cons _ (.cons _ (List.Sublist.refl _)))))))) _ rfl
end
end Go.Proofs.Ytnpemocpfdgaoaa

/- build: a node, instruction by instruction (printed by mkB3.py). -/
namespace Go.Proofs.Ytnpemocpfdgaoaa
open Go Go.Ab
set_option maxRecDepth 20000
set_option maxHeartbeats 2000000
theorem x5 : y7 Try.prog 86 = true := by kernel_rfl
structure NB (p : Program) (f : Func) (cl : Nat) (cs : List AV) (cell s : List Int) (at_ : Int) : Prop where
 p0 : w9 none cs 0 = some (.cptr (Program.cells p) 0)
 hf : w9 none cs 1 = some (.cptr (Func.cells f) 0)
 hc : w9 none cs 2 = some (.ref cl 0 0 cell.length none)
 hl : f.Locals.length < 1000000
 hs : s.length < 100000
 hk : ∀ k ∈ s, 0 <= k /\ k < 256
 hn : f.Code.length < 1000000
 hat : 0 <= at_ /\ at_ < 1000000
def a1C (f : Func) (s : List Int) (n : Int) : Option Int := (j9 s ((s.length : Int) - n)).map fun k => i9 f ((s.length : Int) - n) k
theorem a4U {l : List Int} {k x : Int} (h : j9 l k = some x) : x ∈ l := List.mem_of_getElem? (g9 h).2.2
section
variable {p : Program} {f : Func} {b cl : Nat} {cs : List AV} {cell s : List Int} {at_ : Int} {i : Instr}
theorem q6 {o3 o5 o8 : Nat} {n v : Int} (B : NB p f cl cs cell s at_) (h : a1C f s n = some v) :
  TriR Try.prog 86 [.int .i64 n, .ptr o3 0 0, .ptr o8 0 0, .ptr o5 0 0] [(o3, 0, [.ptr b 0 0]), (o8, 0, [.int .i64 s.length]), (o5, 0, [.sl false 1 (s.map (avI .u8))]), (b, 0, cs)] (.int .i64 v) := by
 obtain ⟨k, h1, rfl⟩ := Option.map_eq_some_iff.1 h
 exact b4d B.hf B.hl (by have := B.hs; omega) h1 (B.hk k (a4U h1))
theorem nd1 (B : NB p f cl cs cell s at_) (hi : j9 f.Code at_ = some i) (hop : i.Op = 1) :
  Tri Try.prog 54 [.ptr b 0 0, .int .i64 at_, .sl false 1 (s.map (avI .u8))] [(b, 0, cs), (cl, 0, flat (avI .i64) cell)] (fun x L' => x = b8.av { (⟨1, 0, i9 f s.length 0, 0, 0, 0, 0, 0, i.Imm, [], 0, 0⟩ : b8) with Next := o9 f at_ i } /\ L' = [(b, 0, cs), (cl, 0, flat (avI .i64) cell)]) := by
 have hs0 := B.hs
 refine Tri.weakr (r0 := .agg (nX (.nils) { (⟨1, 0, i9 f s.length 0, 0, 0, 0, 0, 0, i.Imm, [], 0, 0⟩ : b8) with Next := o9 f at_ i })) ?_ (a5s .nil)
 refine j7 mixed a1D zS [3, 5, 6, 7, 8, 11, 12] (fun R S hS => j4 B.hf B.hl zO hi hS (fun o3 o5 o6 o7 o8 o11 S hS => ?_))
 rw [hop]
 (repeat refine j6 rfl rfl ?_)
 refine x7 rfl rfl ?_
 refine aU ?_
 refine b7 hS rfl (.tail _ (.tail _ (.head _))) (v := .int .u64 i.Imm) rfl ?_
 refine aU ?_
 refine E_stS hS rfl (xv := .agg (nX (.nils) ⟨1, 0, i9 f s.length 0, 0, 0, 0, 0, 0, i.Imm, [], 0, 0⟩)) rfl Rp.here rfl rfl zqV (fun S hS => ?_)
 refine aU ?_
 refine aE ?_
 refine s9 (F := nF o3 o5 o6 o7 o8 o11 at_ f s) wF ?_
 refine g7 (a := .nils) (n := ⟨1, 0, i9 f s.length 0, 0, 0, 0, 0, 0, i.Imm, [], 0, 0⟩) ⟨rfl, rfl⟩ B.hf B.hn B.hat hS (fun S hS fr' hfr => ?_)
 exact ⟨trivial, _, f6 hfr (hS.at (.head _)) rfl, _, ⟨rfl, rfl⟩, hS.sub (List.sublist_cons_self _ _)⟩
theorem nd4 {c : Int} (B : NB p f cl cs cell s at_) (hi : j9 f.Code at_ = some i) (hop : i.Op = 4) (hcell : j9 cell i.Arg = some c) :
  Tri Try.prog 54 [.ptr b 0 0, .int .i64 at_, .sl false 1 (s.map (avI .u8))] [(b, 0, cs), (cl, 0, flat (avI .i64) cell)] (fun x L' => x = b8.av { (⟨6, 0, i9 f s.length 1, 0, 0, 0, 0, c, 0, [], 0, 0⟩ : b8) with Next := o9 f at_ i } /\ L' = [(b, 0, cs), (cl, 0, flat (avI .i64) cell)]) := by
 have hs0 := B.hs
 refine Tri.weakr (r0 := .agg (nX (.nils) { (⟨6, 0, i9 f s.length 1, 0, 0, 0, 0, c, 0, [], 0, 0⟩ : b8) with Next := o9 f at_ i })) ?_ (a5s .nil)
 refine j7 mixed a1D zS [3, 5, 6, 7, 8, 11, 12] (fun R S hS => j4 B.hf B.hl zO hi hS (fun o3 o5 o6 o7 o8 o11 S hS => ?_))
 rw [hop]
 (repeat refine j6 rfl rfl ?_)
 refine x7 rfl rfl ?_
 refine s4 ?_
 refine aU ?_
 refine b7 hS rfl (.tail _ (.tail _ (.tail _ (.tail _ (.tail _ (.head _)))))) (v := .ptr b 0 0) rfl ?_
 refine aU ?_
 refine b7 hS rfl (.tail _ (.head _)) (v := .int .i64 s.length) rfl ?_
 refine aU ?_
 refine a7f (w7 (b := b) (d := s.length) (k := 1) B.hf B.hl zO zO) hS rfl (Spl.cons (Pk.there (Pk.there (Pk.there (Pk.there (Pk.there (Pk.there Pk.here)))))) Spl.nil) ?_
 refine aU ?_
 refine b7 hS rfl (.tail _ (.tail _ (.tail _ (.tail _ (.tail _ (.head _)))))) (v := .ptr b 0 0) rfl ?_
 refine aU ?_
 refine b7 hS rfl (.tail _ (.tail _ (.tail _ (.tail _ (.tail _ (.tail _ (.head _))))))) (v := .ref cl 0 0 cell.length none) B.hc ?_
 refine aU ?_
 refine b7 hS rfl (.tail _ (.tail _ (.head _))) (v := .int .i64 i.Arg) rfl ?_
 refine aU ?_
 obtain ⟨q1, q2, q3⟩ := g9 hcell
 refine s6 rfl rfl i.Arg.toNat zO zO ?_
 refine a2K hS (d8 .i64) rfl (.tail _ (.tail _ (.tail _ (.tail _ (.tail _ (.tail _ (.tail _ (.head _)))))))) (n := i.Arg.toNat) (fo := 0) (y := c) (by simp [d9]) q3 (v := .int .i64 c) rfl ?_
 refine aU ?_
 refine E_stS hS rfl (xv := .agg (nX (.nils) ⟨6, 0, i9 f s.length 1, 0, 0, 0, 0, c, 0, [], 0, 0⟩)) rfl Rp.here rfl rfl zqV (fun S hS => ?_)
 refine a7 ?_
 refine And.intro (by simp [u7, a1u, r5, y8]) ?_
 refine aE ?_
 refine s9 (F := nF o3 o5 o6 o7 o8 o11 at_ f s) wF ?_
 refine g7 (a := .nils) (n := ⟨6, 0, i9 f s.length 1, 0, 0, 0, 0, c, 0, [], 0, 0⟩) ⟨rfl, rfl⟩ B.hf B.hn B.hat hS (fun S hS fr' hfr => ?_)
 exact ⟨trivial, _, f6 hfr (hS.at (.head _)) rfl, _, ⟨rfl, rfl⟩, hS.sub (List.sublist_cons_self _ _)⟩
theorem nd5 {t1 : Int} (B : NB p f cl cs cell s at_) (hi : j9 f.Code at_ = some i) (hop : i.Op = 5) (h1 : a1C f s 1 = some t1) :
  Tri Try.prog 54 [.ptr b 0 0, .int .i64 at_, .sl false 1 (s.map (avI .u8))] [(b, 0, cs), (cl, 0, flat (avI .i64) cell)] (fun x L' => x = b8.av { (⟨7, 0, i9 f ((s.length : Int) - 1) 0, 0, t1, 0, 0, 0, 0, [], 0, 0⟩ : b8) with Next := o9 f at_ i } /\ L' = [(b, 0, cs), (cl, 0, flat (avI .i64) cell)]) := by
 have hs0 := B.hs
 refine Tri.weakr (r0 := .agg (nX (.nils) { (⟨7, 0, i9 f ((s.length : Int) - 1) 0, 0, t1, 0, 0, 0, 0, [], 0, 0⟩ : b8) with Next := o9 f at_ i })) ?_ (a5s .nil)
 refine j7 mixed a1D zS [3, 5, 6, 7, 8, 11, 12] (fun R S hS => j4 B.hf B.hl zO hi hS (fun o3 o5 o6 o7 o8 o11 S hS => ?_))
 rw [hop]
 (repeat refine j6 rfl rfl ?_)
 refine x7 rfl rfl ?_
 refine aU ?_
 refine b7 hS rfl (.tail _ (.tail _ (.tail _ (.tail _ (.tail _ (.head _)))))) (v := .ptr b 0 0) rfl ?_
 refine aU ?_
 refine b7 hS rfl (.tail _ (.head _)) (v := .int .i64 s.length) rfl ?_
 refine aU ?_
 rw [p4 (x := (s.length : Int) - 1) zO]
 refine a7f (w7 (b := b) (d := (s.length : Int) - 1) (k := 0) B.hf B.hl zO zO) hS rfl (Spl.cons (Pk.there (Pk.there (Pk.there (Pk.there (Pk.there (Pk.there Pk.here)))))) Spl.nil) ?_
 refine aU ?_
 refine p9 (q6 (b := b) (o3 := o3) (o5 := o5) (o8 := o8) B h1) hS rfl x5 rfl (Spl.cons (Pk.there (Pk.there (Pk.there (Pk.there (Pk.there Pk.here))))) (Spl.cons (Pk.there Pk.here) (Spl.cons (Pk.there (Pk.there (Pk.there Pk.here))) (Spl.cons (Pk.there (Pk.there (Pk.there Pk.here))) Spl.nil)))) ?_
 refine aU ?_
 refine E_stS hS rfl (xv := .agg (nX (.nils) ⟨7, 0, i9 f ((s.length : Int) - 1) 0, 0, t1, 0, 0, 0, 0, [], 0, 0⟩)) rfl Rp.here rfl rfl zqV (fun S hS => ?_)
 refine aU ?_
 refine aE ?_
 refine s9 (F := nF o3 o5 o6 o7 o8 o11 at_ f s) wF ?_
 refine g7 (a := .nils) (n := ⟨7, 0, i9 f ((s.length : Int) - 1) 0, 0, t1, 0, 0, 0, 0, [], 0, 0⟩) ⟨rfl, rfl⟩ B.hf B.hn B.hat hS (fun S hS fr' hfr => ?_)
 exact ⟨trivial, _, f6 hfr (hS.at (.head _)) rfl, _, ⟨rfl, rfl⟩, hS.sub (List.sublist_cons_self _ _)⟩
theorem nd6 {t1 t2 : Int} (B : NB p f cl cs cell s at_) (hi : j9 f.Code at_ = some i) (hop : i.Op = 6) (h1 : a1C f s 1 = some t1) (h2 : a1C f s 2 = some t2) :
  Tri Try.prog 54 [.ptr b 0 0, .int .i64 at_, .sl false 1 (s.map (avI .u8))] [(b, 0, cs), (cl, 0, flat (avI .i64) cell)] (fun x L' => x = b8.av { (⟨8, 0, 0, 0, t2, t1, 0, 0, 0, [], 0, 0⟩ : b8) with Next := o9 f at_ i } /\ L' = [(b, 0, cs), (cl, 0, flat (avI .i64) cell)]) := by
 have hs0 := B.hs
 refine Tri.weakr (r0 := .agg (nX (.nils) { (⟨8, 0, 0, 0, t2, t1, 0, 0, 0, [], 0, 0⟩ : b8) with Next := o9 f at_ i })) ?_ (a5s .nil)
 refine j7 mixed a1D zS [3, 5, 6, 7, 8, 11, 12] (fun R S hS => j4 B.hf B.hl zO hi hS (fun o3 o5 o6 o7 o8 o11 S hS => ?_))
 rw [hop]
 (repeat refine j6 rfl rfl ?_)
 refine x7 rfl rfl ?_
 refine aU ?_
 refine p9 (q6 (b := b) (o3 := o3) (o5 := o5) (o8 := o8) B h2) hS rfl x5 rfl (Spl.cons (Pk.there (Pk.there (Pk.there (Pk.there (Pk.there Pk.here))))) (Spl.cons (Pk.there Pk.here) (Spl.cons (Pk.there (Pk.there (Pk.there Pk.here))) (Spl.cons (Pk.there (Pk.there (Pk.there Pk.here))) Spl.nil)))) ?_
 refine aU ?_
 refine p9 (q6 (b := b) (o3 := o3) (o5 := o5) (o8 := o8) B h1) hS rfl x5 rfl (Spl.cons (Pk.there (Pk.there (Pk.there (Pk.there (Pk.there Pk.here))))) (Spl.cons (Pk.there Pk.here) (Spl.cons (Pk.there (Pk.there (Pk.there Pk.here))) (Spl.cons (Pk.there (Pk.there (Pk.there Pk.here))) Spl.nil)))) ?_
 refine aU ?_
 refine E_stS hS rfl (xv := .agg (nX (.nils) ⟨8, 0, 0, 0, t2, t1, 0, 0, 0, [], 0, 0⟩)) rfl Rp.here rfl rfl zqV (fun S hS => ?_)
 refine aU ?_
 refine aE ?_
 refine s9 (F := nF o3 o5 o6 o7 o8 o11 at_ f s) wF ?_
 refine g7 (a := .nils) (n := ⟨8, 0, 0, 0, t2, t1, 0, 0, 0, [], 0, 0⟩) ⟨rfl, rfl⟩ B.hf B.hn B.hat hS (fun S hS fr' hfr => ?_)
 exact ⟨trivial, _, f6 hfr (hS.at (.head _)) rfl, _, ⟨rfl, rfl⟩, hS.sub (List.sublist_cons_self _ _)⟩
theorem c7v {t1 : Int} (B : NB p f cl cs cell s at_) (hi : j9 f.Code at_ = some i) (hop : i.Op = 22) (h1 : a1C f s 1 = some t1) :
  Tri Try.prog 54 [.ptr b 0 0, .int .i64 at_, .sl false 1 (s.map (avI .u8))] [(b, 0, cs), (cl, 0, flat (avI .i64) cell)] (fun x L' => x = b8.av { (⟨9, 0, 0, 0, t1, 0, 0, 0, 0, [], 0, i.Arg⟩ : b8) with Next := o9 f at_ i } /\ L' = [(b, 0, cs), (cl, 0, flat (avI .i64) cell)]) := by
 have hs0 := B.hs
 refine Tri.weakr (r0 := .agg (nX (.nils) { (⟨9, 0, 0, 0, t1, 0, 0, 0, 0, [], 0, i.Arg⟩ : b8) with Next := o9 f at_ i })) ?_ (a5s .nil)
 refine j7 mixed a1D zS [3, 5, 6, 7, 8, 11, 12] (fun R S hS => j4 B.hf B.hl zO hi hS (fun o3 o5 o6 o7 o8 o11 S hS => ?_))
 rw [hop]
 (repeat refine j6 rfl rfl ?_)
 refine a0q rfl zD zD rfl rfl (fun h => by cases h) (fun _ => ?_)
 (repeat refine j6 rfl rfl ?_)
 refine x7 rfl rfl ?_
 refine s4 ?_
 refine aU ?_
 refine p9 (q6 (b := b) (o3 := o3) (o5 := o5) (o8 := o8) B h1) hS rfl x5 rfl (Spl.cons (Pk.there (Pk.there (Pk.there (Pk.there (Pk.there Pk.here))))) (Spl.cons (Pk.there Pk.here) (Spl.cons (Pk.there (Pk.there (Pk.there Pk.here))) (Spl.cons (Pk.there (Pk.there (Pk.there Pk.here))) Spl.nil)))) ?_
 refine aU ?_
 refine b7 hS rfl (.tail _ (.tail _ (.head _))) (v := .int .i64 i.Arg) rfl ?_
 refine aU ?_
 refine E_stS hS rfl (xv := .agg (nX (.nils) ⟨9, 0, 0, 0, t1, 0, 0, 0, 0, [], 0, i.Arg⟩)) rfl Rp.here rfl rfl zqV (fun S hS => ?_)
 refine a7 ?_
 refine And.intro (by simp [u7, a1u, r5, y8]) ?_
 refine aE ?_
 refine s9 (F := nF o3 o5 o6 o7 o8 o11 at_ f s) wF ?_
 refine g7 (a := .nils) (n := ⟨9, 0, 0, 0, t1, 0, 0, 0, 0, [], 0, i.Arg⟩) ⟨rfl, rfl⟩ B.hf B.hn B.hat hS (fun S hS fr' hfr => ?_)
 exact ⟨trivial, _, f6 hfr (hS.at (.head _)) rfl, _, ⟨rfl, rfl⟩, hS.sub (List.sublist_cons_self _ _)⟩
theorem c7w {t1 : Int} (B : NB p f cl cs cell s at_) (hi : j9 f.Code at_ = some i) (hop : i.Op = 26) (h1 : a1C f s 1 = some t1) :
  Tri Try.prog 54 [.ptr b 0 0, .int .i64 at_, .sl false 1 (s.map (avI .u8))] [(b, 0, cs), (cl, 0, flat (avI .i64) cell)] (fun x L' => x = b8.av { (⟨14, 0, 0, 0, t1, 0, 0, 0, 0, [], 0, 0⟩ : b8) with Next := o9 f at_ i } /\ L' = [(b, 0, cs), (cl, 0, flat (avI .i64) cell)]) := by
 have hs0 := B.hs
 refine Tri.weakr (r0 := .agg (nX (.nils) { (⟨14, 0, 0, 0, t1, 0, 0, 0, 0, [], 0, 0⟩ : b8) with Next := o9 f at_ i })) ?_ (a5s .nil)
 refine j7 mixed a1D zS [3, 5, 6, 7, 8, 11, 12] (fun R S hS => j4 B.hf B.hl zO hi hS (fun o3 o5 o6 o7 o8 o11 S hS => ?_))
 rw [hop]
 (repeat refine j6 rfl rfl ?_)
 refine a0q rfl zD zD rfl rfl (fun h => by cases h) (fun _ => ?_)
 (repeat refine j6 rfl rfl ?_)
 refine x7 rfl rfl ?_
 refine aU ?_
 refine p9 (q6 (b := b) (o3 := o3) (o5 := o5) (o8 := o8) B h1) hS rfl x5 rfl (Spl.cons (Pk.there (Pk.there (Pk.there (Pk.there (Pk.there Pk.here))))) (Spl.cons (Pk.there Pk.here) (Spl.cons (Pk.there (Pk.there (Pk.there Pk.here))) (Spl.cons (Pk.there (Pk.there (Pk.there Pk.here))) Spl.nil)))) ?_
 refine aU ?_
 refine E_stS hS rfl (xv := .agg (nX (.nils) ⟨14, 0, 0, 0, t1, 0, 0, 0, 0, [], 0, 0⟩)) rfl Rp.here rfl rfl zqV (fun S hS => ?_)
 refine aU ?_
 refine aE ?_
 refine s9 (F := nF o3 o5 o6 o7 o8 o11 at_ f s) wF ?_
 refine g7 (a := .nils) (n := ⟨14, 0, 0, 0, t1, 0, 0, 0, 0, [], 0, 0⟩) ⟨rfl, rfl⟩ B.hf B.hn B.hat hS (fun S hS fr' hfr => ?_)
 exact ⟨trivial, _, f6 hfr (hS.at (.head _)) rfl, _, ⟨rfl, rfl⟩, hS.sub (List.sublist_cons_self _ _)⟩
theorem c7x {t1 : Int} (B : NB p f cl cs cell s at_) (hi : j9 f.Code at_ = some i) (hop : i.Op = 29) (h1 : a1C f s 1 = some t1) :
  Tri Try.prog 54 [.ptr b 0 0, .int .i64 at_, .sl false 1 (s.map (avI .u8))] [(b, 0, cs), (cl, 0, flat (avI .i64) cell)] (fun x L' => x = b8.av { (⟨17, 0, 0, 0, t1, 0, 0, 0, 0, [], 0, 0⟩ : b8) with Next := o9 f at_ i } /\ L' = [(b, 0, cs), (cl, 0, flat (avI .i64) cell)]) := by
 have hs0 := B.hs
 refine Tri.weakr (r0 := .agg (nX (.nils) { (⟨17, 0, 0, 0, t1, 0, 0, 0, 0, [], 0, 0⟩ : b8) with Next := o9 f at_ i })) ?_ (a5s .nil)
 refine j7 mixed a1D zS [3, 5, 6, 7, 8, 11, 12] (fun R S hS => j4 B.hf B.hl zO hi hS (fun o3 o5 o6 o7 o8 o11 S hS => ?_))
 rw [hop]
 (repeat refine j6 rfl rfl ?_)
 refine a0q rfl zD zD rfl rfl (fun h => by cases h) (fun _ => ?_)
 (repeat refine j6 rfl rfl ?_)
 refine x7 rfl rfl ?_
 refine aU ?_
 refine p9 (q6 (b := b) (o3 := o3) (o5 := o5) (o8 := o8) B h1) hS rfl x5 rfl (Spl.cons (Pk.there (Pk.there (Pk.there (Pk.there (Pk.there Pk.here))))) (Spl.cons (Pk.there Pk.here) (Spl.cons (Pk.there (Pk.there (Pk.there Pk.here))) (Spl.cons (Pk.there (Pk.there (Pk.there Pk.here))) Spl.nil)))) ?_
 refine aU ?_
 refine E_stS hS rfl (xv := .agg (nX (.nils) ⟨17, 0, 0, 0, t1, 0, 0, 0, 0, [], 0, 0⟩)) rfl Rp.here rfl rfl zqV (fun S hS => ?_)
 refine aU ?_
 refine aE ?_
 refine s9 (F := nF o3 o5 o6 o7 o8 o11 at_ f s) wF ?_
 refine g7 (a := .nils) (n := ⟨17, 0, 0, 0, t1, 0, 0, 0, 0, [], 0, 0⟩) ⟨rfl, rfl⟩ B.hf B.hn B.hat hS (fun S hS fr' hfr => ?_)
 exact ⟨trivial, _, f6 hfr (hS.at (.head _)) rfl, _, ⟨rfl, rfl⟩, hS.sub (List.sublist_cons_self _ _)⟩
theorem c7y {t1 : Int} (B : NB p f cl cs cell s at_) (hi : j9 f.Code at_ = some i) (hop : i.Op = 30) (h1 : a1C f s 1 = some t1) :
  Tri Try.prog 54 [.ptr b 0 0, .int .i64 at_, .sl false 1 (s.map (avI .u8))] [(b, 0, cs), (cl, 0, flat (avI .i64) cell)] (fun x L' => x = b8.av { (⟨18, 0, 0, 0, t1, 0, 0, 0, 0, [], 0, 0⟩ : b8) with Next := o9 f at_ i } /\ L' = [(b, 0, cs), (cl, 0, flat (avI .i64) cell)]) := by
 have hs0 := B.hs
 refine Tri.weakr (r0 := .agg (nX (.nils) { (⟨18, 0, 0, 0, t1, 0, 0, 0, 0, [], 0, 0⟩ : b8) with Next := o9 f at_ i })) ?_ (a5s .nil)
 refine j7 mixed a1D zS [3, 5, 6, 7, 8, 11, 12] (fun R S hS => j4 B.hf B.hl zO hi hS (fun o3 o5 o6 o7 o8 o11 S hS => ?_))
 rw [hop]
 (repeat refine j6 rfl rfl ?_)
 refine a0q rfl zD zD rfl rfl (fun h => by cases h) (fun _ => ?_)
 (repeat refine j6 rfl rfl ?_)
 refine x7 rfl rfl ?_
 refine aU ?_
 refine p9 (q6 (b := b) (o3 := o3) (o5 := o5) (o8 := o8) B h1) hS rfl x5 rfl (Spl.cons (Pk.there (Pk.there (Pk.there (Pk.there (Pk.there Pk.here))))) (Spl.cons (Pk.there Pk.here) (Spl.cons (Pk.there (Pk.there (Pk.there Pk.here))) (Spl.cons (Pk.there (Pk.there (Pk.there Pk.here))) Spl.nil)))) ?_
 refine aU ?_
 refine E_stS hS rfl (xv := .agg (nX (.nils) ⟨18, 0, 0, 0, t1, 0, 0, 0, 0, [], 0, 0⟩)) rfl Rp.here rfl rfl zqV (fun S hS => ?_)
 refine aU ?_
 refine aE ?_
 refine s9 (F := nF o3 o5 o6 o7 o8 o11 at_ f s) wF ?_
 refine g7 (a := .nils) (n := ⟨18, 0, 0, 0, t1, 0, 0, 0, 0, [], 0, 0⟩) ⟨rfl, rfl⟩ B.hf B.hn B.hat hS (fun S hS fr' hfr => ?_)
 exact ⟨trivial, _, f6 hfr (hS.at (.head _)) rfl, _, ⟨rfl, rfl⟩, hS.sub (List.sublist_cons_self _ _)⟩
theorem c7z (B : NB p f cl cs cell s at_) (hi : j9 f.Code at_ = some i) (hop : i.Op = 27) :
  Tri Try.prog 54 [.ptr b 0 0, .int .i64 at_, .sl false 1 (s.map (avI .u8))] [(b, 0, cs), (cl, 0, flat (avI .i64) cell)] (fun x L' => x = b8.av { (⟨15, 0, i9 f s.length 0, i9 f ((s.length : Int) + 1) 0, 0, 0, 0, 0, 0, [], 0, 0⟩ : b8) with Next := o9 f at_ i } /\ L' = [(b, 0, cs), (cl, 0, flat (avI .i64) cell)]) := by
 have hs0 := B.hs
 refine Tri.weakr (r0 := .agg (nX (.nils) { (⟨15, 0, i9 f s.length 0, i9 f ((s.length : Int) + 1) 0, 0, 0, 0, 0, 0, [], 0, 0⟩ : b8) with Next := o9 f at_ i })) ?_ (a5s .nil)
 refine j7 mixed a1D zS [3, 5, 6, 7, 8, 11, 12] (fun R S hS => j4 B.hf B.hl zO hi hS (fun o3 o5 o6 o7 o8 o11 S hS => ?_))
 rw [hop]
 (repeat refine j6 rfl rfl ?_)
 refine a0q rfl zD zD rfl rfl (fun h => by cases h) (fun _ => ?_)
 (repeat refine j6 rfl rfl ?_)
 refine x7 rfl rfl ?_
 refine aU ?_
 refine b7 hS rfl (.tail _ (.tail _ (.tail _ (.tail _ (.tail _ (.head _)))))) (v := .ptr b 0 0) rfl ?_
 refine aU ?_
 refine b7 hS rfl (.tail _ (.head _)) (v := .int .i64 s.length) rfl ?_
 refine aU ?_
 rw [p4 (x := (s.length : Int) + 1) zO]
 refine a7f (w7 (b := b) (d := (s.length : Int) + 1) (k := 0) B.hf B.hl zO zO) hS rfl (Spl.cons (Pk.there (Pk.there (Pk.there (Pk.there (Pk.there (Pk.there Pk.here)))))) Spl.nil) ?_
 refine aU ?_
 refine E_stS hS rfl (xv := .agg (nX (.nils) ⟨15, 0, i9 f s.length 0, i9 f ((s.length : Int) + 1) 0, 0, 0, 0, 0, 0, [], 0, 0⟩)) rfl Rp.here rfl rfl zqV (fun S hS => ?_)
 refine aU ?_
 refine aE ?_
 refine s9 (F := nF o3 o5 o6 o7 o8 o11 at_ f s) wF ?_
 refine g7 (a := .nils) (n := ⟨15, 0, i9 f s.length 0, i9 f ((s.length : Int) + 1) 0, 0, 0, 0, 0, 0, [], 0, 0⟩) ⟨rfl, rfl⟩ B.hf B.hn B.hat hS (fun S hS fr' hfr => ?_)
 exact ⟨trivial, _, f6 hfr (hS.at (.head _)) rfl, _, ⟨rfl, rfl⟩, hS.sub (List.sublist_cons_self _ _)⟩
theorem c7A (B : NB p f cl cs cell s at_) (hi : j9 f.Code at_ = some i) (hop : i.Op = 28) :
  Tri Try.prog 54 [.ptr b 0 0, .int .i64 at_, .sl false 1 (s.map (avI .u8))] [(b, 0, cs), (cl, 0, flat (avI .i64) cell)] (fun x L' => x = b8.av { (⟨16, 0, i9 f s.length 0, 0, 0, 0, 0, 0, 0, [], 0, 0⟩ : b8) with Next := o9 f at_ i } /\ L' = [(b, 0, cs), (cl, 0, flat (avI .i64) cell)]) := by
 have hs0 := B.hs
 refine Tri.weakr (r0 := .agg (nX (.nils) { (⟨16, 0, i9 f s.length 0, 0, 0, 0, 0, 0, 0, [], 0, 0⟩ : b8) with Next := o9 f at_ i })) ?_ (a5s .nil)
 refine j7 mixed a1D zS [3, 5, 6, 7, 8, 11, 12] (fun R S hS => j4 B.hf B.hl zO hi hS (fun o3 o5 o6 o7 o8 o11 S hS => ?_))
 rw [hop]
 (repeat refine j6 rfl rfl ?_)
 refine a0q rfl zD zD rfl rfl (fun h => by cases h) (fun _ => ?_)
 (repeat refine j6 rfl rfl ?_)
 refine x7 rfl rfl ?_
 refine aU ?_
 refine E_stS hS rfl (xv := .agg (nX (.nils) ⟨16, 0, i9 f s.length 0, 0, 0, 0, 0, 0, 0, [], 0, 0⟩)) rfl Rp.here rfl rfl zqV (fun S hS => ?_)
 refine aU ?_
 refine aE ?_
 refine s9 (F := nF o3 o5 o6 o7 o8 o11 at_ f s) wF ?_
 refine g7 (a := .nils) (n := ⟨16, 0, i9 f s.length 0, 0, 0, 0, 0, 0, 0, [], 0, 0⟩) ⟨rfl, rfl⟩ B.hf B.hn B.hat hS (fun S hS fr' hfr => ?_)
 exact ⟨trivial, _, f6 hfr (hS.at (.head _)) rfl, _, ⟨rfl, rfl⟩, hS.sub (List.sublist_cons_self _ _)⟩
theorem c7B {k t1 : Int} (B : NB p f cl cs cell s at_) (hi : j9 f.Code at_ = some i) (hop : i.Op = 32) (hk1 : j9 s ((s.length : Int) - 1) = some k) (h1 : a1C f s 1 = some t1) :
  Tri Try.prog 54 [.ptr b 0 0, .int .i64 at_, .sl false 1 (s.map (avI .u8))] [(b, 0, cs), (cl, 0, flat (avI .i64) cell)] (fun x L' => x = b8.av { (⟨2, 0, i9 f s.length k, 0, t1, 0, 0, 0, 0, [], 0, 0⟩ : b8) with Next := o9 f at_ i } /\ L' = [(b, 0, cs), (cl, 0, flat (avI .i64) cell)]) := by
 have hs0 := B.hs
 refine Tri.weakr (r0 := .agg (nX (.nils) { (⟨2, 0, i9 f s.length k, 0, t1, 0, 0, 0, 0, [], 0, 0⟩ : b8) with Next := o9 f at_ i })) ?_ (a5s .nil)
 refine j7 mixed a1D zS [3, 5, 6, 7, 8, 11, 12] (fun R S hS => j4 B.hf B.hl zO hi hS (fun o3 o5 o6 o7 o8 o11 S hS => ?_))
 rw [hop]
 (repeat refine j6 rfl rfl ?_)
 refine a0q rfl zD zD rfl rfl (fun h => by cases h) (fun _ => ?_)
 (repeat refine j6 rfl rfl ?_)
 refine x7 rfl rfl ?_
 refine aU ?_
 refine b7 hS rfl (.tail _ (.tail _ (.tail _ (.tail _ (.tail _ (.head _)))))) (v := .ptr b 0 0) rfl ?_
 refine aU ?_
 refine b7 hS rfl (.tail _ (.head _)) (v := .int .i64 s.length) rfl ?_
 refine aU ?_
 refine b7 hS rfl (.tail _ (.tail _ (.tail _ (.tail _ (.head _))))) (v := .sl false 1 (s.map (avI .u8))) rfl ?_
 refine aU ?_
 refine b7 hS rfl (.tail _ (.head _)) (v := .int .i64 s.length) rfl ?_
 refine aU ?_
 rw [p4 (x := (s.length : Int) - 1) zO]
 refine g8 (esh := none) (f := avI .u8) (ys := s) (y := k) (n := (s.length : Int) - 1) rfl rfl hk1 ?_
 refine aU ?_
 refine a7f (w7 (b := b) (d := s.length) (k := k) B.hf B.hl zO (B.hk k (a4U hk1))) hS rfl (Spl.cons (Pk.there (Pk.there (Pk.there (Pk.there (Pk.there (Pk.there Pk.here)))))) Spl.nil) ?_
 refine aU ?_
 refine p9 (q6 (b := b) (o3 := o3) (o5 := o5) (o8 := o8) B h1) hS rfl x5 rfl (Spl.cons (Pk.there (Pk.there (Pk.there (Pk.there (Pk.there Pk.here))))) (Spl.cons (Pk.there Pk.here) (Spl.cons (Pk.there (Pk.there (Pk.there Pk.here))) (Spl.cons (Pk.there (Pk.there (Pk.there Pk.here))) Spl.nil)))) ?_
 refine aU ?_
 refine E_stS hS rfl (xv := .agg (nX (.nils) ⟨2, 0, i9 f s.length k, 0, t1, 0, 0, 0, 0, [], 0, 0⟩)) rfl Rp.here rfl rfl zqV (fun S hS => ?_)
 refine aU ?_
 refine aE ?_
 refine s9 (F := nF o3 o5 o6 o7 o8 o11 at_ f s) wF ?_
 refine g7 (a := .nils) (n := ⟨2, 0, i9 f s.length k, 0, t1, 0, 0, 0, 0, [], 0, 0⟩) ⟨rfl, rfl⟩ B.hf B.hn B.hat hS (fun S hS fr' hfr => ?_)
 exact ⟨trivial, _, f6 hfr (hS.at (.head _)) rfl, _, ⟨rfl, rfl⟩, hS.sub (List.sublist_cons_self _ _)⟩
end
end Go.Proofs.Ytnpemocpfdgaoaa

/- build: a node, instruction by instruction (printed by mkB4.py). -/
namespace Go.Proofs.Ytnpemocpfdgaoaa
open Go Go.Ab
set_option maxRecDepth 20000
set_option maxHeartbeats 2000000
section
variable {p : Program} {f : Func} {b cl : Nat} {cs : List AV} {cell s : List Int} {at_ : Int} {i : Instr}
theorem nd2 {c k : Int} (B : NB p f cl cs cell s at_) (hi : j9 f.Code at_ = some i) (hop : i.Op = 2) (hcell : j9 cell i.Arg = some c) (hk1 : j9 f.Locals i.Arg = some k) (hk2 : 0 <= k /\ k < 256) :
  Tri Try.prog 54 [.ptr b 0 0, .int .i64 at_, .sl false 1 (s.map (avI .u8))] [(b, 0, cs), (cl, 0, flat (avI .i64) cell)] (fun x L' => x = b8.av { ((t5 c i.Arg (i9 f s.length k) false) : b8) with Next := o9 f at_ i } /\ L' = [(b, 0, cs), (cl, 0, flat (avI .i64) cell)]) := by
 have hs0 := B.hs
 refine Tri.weakr (r0 := .agg (nX (.sl false 1 (([] : List Int).map (avI .i64))) { ((t5 c i.Arg (i9 f s.length k) false) : b8) with Next := o9 f at_ i })) ?_ (a5s (by rw [show ({ (t5 c i.Arg (i9 f s.length k) false) with Next := o9 f at_ i } : b8).Args = [] from j8]; exact .refl _))
 refine j7 mixed a1D zS [3, 5, 6, 7, 8, 11, 12] (fun R S hS => j4 B.hf B.hl zO hi hS (fun o3 o5 o6 o7 o8 o11 S hS => ?_))
 rw [hop]
 (repeat refine j6 rfl rfl ?_)
 refine x7 rfl rfl ?_
 refine s4 ?_
 refine aU ?_
 refine b7 hS rfl (.tail _ (.tail _ (.tail _ (.tail _ (.tail _ (.head _)))))) (v := .ptr b 0 0) rfl ?_
 refine aU ?_
 refine b7 hS rfl (.tail _ (.tail _ (.head _))) (v := .int .i64 i.Arg) rfl ?_
 refine aU ?_
 refine b7 hS rfl (.tail _ (.tail _ (.tail _ (.tail _ (.tail _ (.head _)))))) (v := .ptr b 0 0) rfl ?_
 refine aU ?_
 refine b7 hS rfl (.tail _ (.head _)) (v := .int .i64 s.length) rfl ?_
 refine aU ?_
 refine b7 hS rfl (.tail _ (.tail _ (.tail _ (.tail _ (.tail _ (.head _)))))) (v := .ptr b 0 0) rfl ?_
 refine aU ?_
 refine b7 hS rfl (.tail _ (.tail _ (.tail _ (.tail _ (.tail _ (.tail _ (.head _))))))) (v := .cptr (Func.cells f) 0) B.hf ?_
 refine aU ?_
 refine b7 hS rfl (.tail _ (.tail _ (.head _))) (v := .int .i64 i.Arg) rfl ?_
 refine aU ?_
 refine g8 (esh := none) (f := avI .u8) (ys := f.Locals) (y := k) rfl rfl hk1 ?_
 refine aU ?_
 refine a7f (w7 (b := b) (d := s.length) (k := k) B.hf B.hl zO hk2) hS rfl (Spl.cons (Pk.there (Pk.there (Pk.there (Pk.there (Pk.there (Pk.there Pk.here)))))) Spl.nil) ?_
 refine aU ?_
 have hm1 := hS.at (.tail _ (.tail _ (.tail _ (.tail _ (.tail _ (.head _))))))
 have hm2 := hS.at (.tail _ (.tail _ (.head _)))
 refine a2S (a7h (cell := cell) (c := c) (i := i.Arg) (place := i9 f s.length k) (w := false) B.hc hcell) hS rfl (Spl.cons (Pk.there (Pk.there (Pk.there (Pk.there (Pk.there (Pk.there Pk.here)))))) (Spl.cons (Pk.there (Pk.there (Pk.there (Pk.there (Pk.there (Pk.there Pk.here)))))) Spl.nil)) (fun x S L' hL hS => ?_)
 obtain ⟨rfl, rfl⟩ := hL
 have hS2 : Ab.Sep S (nLs b cl o3 o5 o6 o7 o8 o11 cs cell s i .nils zN R) := hS.perm (Spl.cons (Pk.there (Pk.there Pk.here)) (Spl.cons (Pk.there (Pk.there Pk.here)) (Spl.cons (Pk.there (Pk.there Pk.here)) (Spl.cons (Pk.there (Pk.there Pk.here)) (Spl.cons (Pk.there (Pk.there Pk.here)) (Spl.cons (Pk.there (Pk.there Pk.here)) (Spl.cons Pk.here (Spl.cons Pk.here (.refl _)))))))))
 clear hS
 have hS := hS2
 clear hS2
 have hm3 := hS.at (.tail _ (.tail _ (.tail _ (.tail _ (.tail _ (.head _))))))
 have hm4 := hS.at (.tail _ (.tail _ (.head _)))
 refine aU ?_
 have hlz : b8.av (t5 c i.Arg (i9 f s.length k) false) = .agg (nX (.sl false 1 (([] : List Int).map (avI .i64))) (t5 c i.Arg (i9 f s.length k) false)) := by
  show AV.agg (b8.cells (t5 c i.Arg (i9 f s.length k) false)) = _
  unfold b8.cells
  rw [j8]
 refine E_stS hS rfl (xv := .agg (nX (.sl false 1 (([] : List Int).map (avI .i64))) (t5 c i.Arg (i9 f s.length k) false))) hlz Rp.here rfl rfl zqV (fun S hS => ?_)
 refine a7 ?_
 refine And.intro (by simp [u7, a1u, r5, y8]) ?_
 refine aE ?_
 refine s9 (F := nF o3 o5 o6 o7 o8 o11 at_ f s) wF ?_
 refine g7 (a := .sl false 1 (([] : List Int).map (avI .i64))) (n := (t5 c i.Arg (i9 f s.length k) false)) ⟨rfl, rfl⟩ B.hf B.hn B.hat hS (fun S hS fr' hfr => ?_)
 exact ⟨trivial, _, f6 hfr (hS.at (.head _)) rfl, _, ⟨rfl, rfl⟩, hS.sub (List.sublist_cons_self _ _)⟩
theorem nd3 {c t1 : Int} (B : NB p f cl cs cell s at_) (hi : j9 f.Code at_ = some i) (hop : i.Op = 3) (hcell : j9 cell i.Arg = some c) (h1 : a1C f s 1 = some t1) :
  Tri Try.prog 54 [.ptr b 0 0, .int .i64 at_, .sl false 1 (s.map (avI .u8))] [(b, 0, cs), (cl, 0, flat (avI .i64) cell)] (fun x L' => x = b8.av { ((t5 c i.Arg t1 true) : b8) with Next := o9 f at_ i } /\ L' = [(b, 0, cs), (cl, 0, flat (avI .i64) cell)]) := by
 have hs0 := B.hs
 refine Tri.weakr (r0 := .agg (nX (.sl false 1 (([] : List Int).map (avI .i64))) { ((t5 c i.Arg t1 true) : b8) with Next := o9 f at_ i })) ?_ (a5s (by rw [show ({ (t5 c i.Arg t1 true) with Next := o9 f at_ i } : b8).Args = [] from j8]; exact .refl _))
 refine j7 mixed a1D zS [3, 5, 6, 7, 8, 11, 12] (fun R S hS => j4 B.hf B.hl zO hi hS (fun o3 o5 o6 o7 o8 o11 S hS => ?_))
 rw [hop]
 (repeat refine j6 rfl rfl ?_)
 refine x7 rfl rfl ?_
 refine s4 ?_
 refine aU ?_
 refine b7 hS rfl (.tail _ (.tail _ (.tail _ (.tail _ (.tail _ (.head _)))))) (v := .ptr b 0 0) rfl ?_
 refine aU ?_
 refine b7 hS rfl (.tail _ (.tail _ (.head _))) (v := .int .i64 i.Arg) rfl ?_
 refine aU ?_
 refine p9 (q6 (b := b) (o3 := o3) (o5 := o5) (o8 := o8) B h1) hS rfl x5 rfl (Spl.cons (Pk.there (Pk.there (Pk.there (Pk.there (Pk.there Pk.here))))) (Spl.cons (Pk.there Pk.here) (Spl.cons (Pk.there (Pk.there (Pk.there Pk.here))) (Spl.cons (Pk.there (Pk.there (Pk.there Pk.here))) Spl.nil)))) ?_
 refine aU ?_
 have hm1 := hS.at (.tail _ (.tail _ (.tail _ (.tail _ (.tail _ (.head _))))))
 have hm2 := hS.at (.tail _ (.tail _ (.head _)))
 refine a2S (a7h (cell := cell) (c := c) (i := i.Arg) (place := t1) (w := true) B.hc hcell) hS rfl (Spl.cons (Pk.there (Pk.there (Pk.there (Pk.there (Pk.there (Pk.there Pk.here)))))) (Spl.cons (Pk.there (Pk.there (Pk.there (Pk.there (Pk.there (Pk.there Pk.here)))))) Spl.nil)) (fun x S L' hL hS => ?_)
 obtain ⟨rfl, rfl⟩ := hL
 have hS2 : Ab.Sep S (nLs b cl o3 o5 o6 o7 o8 o11 cs cell s i .nils zN R) := hS.perm (Spl.cons (Pk.there (Pk.there Pk.here)) (Spl.cons (Pk.there (Pk.there Pk.here)) (Spl.cons (Pk.there (Pk.there Pk.here)) (Spl.cons (Pk.there (Pk.there Pk.here)) (Spl.cons (Pk.there (Pk.there Pk.here)) (Spl.cons (Pk.there (Pk.there Pk.here)) (Spl.cons Pk.here (Spl.cons Pk.here (.refl _)))))))))
 clear hS
 have hS := hS2
 clear hS2
 have hm3 := hS.at (.tail _ (.tail _ (.tail _ (.tail _ (.tail _ (.head _))))))
 have hm4 := hS.at (.tail _ (.tail _ (.head _)))
 refine aU ?_
 have hlz : b8.av (t5 c i.Arg t1 true) = .agg (nX (.sl false 1 (([] : List Int).map (avI .i64))) (t5 c i.Arg t1 true)) := by
  show AV.agg (b8.cells (t5 c i.Arg t1 true)) = _
  unfold b8.cells
  rw [j8]
 refine E_stS hS rfl (xv := .agg (nX (.sl false 1 (([] : List Int).map (avI .i64))) (t5 c i.Arg t1 true))) hlz Rp.here rfl rfl zqV (fun S hS => ?_)
 refine a7 ?_
 refine And.intro (by simp [u7, a1u, r5, y8]) ?_
 refine aE ?_
 refine s9 (F := nF o3 o5 o6 o7 o8 o11 at_ f s) wF ?_
 refine g7 (a := .sl false 1 (([] : List Int).map (avI .i64))) (n := (t5 c i.Arg t1 true)) ⟨rfl, rfl⟩ B.hf B.hn B.hat hS (fun S hS fr' hfr => ?_)
 exact ⟨trivial, _, f6 hfr (hS.at (.head _)) rfl, _, ⟨rfl, rfl⟩, hS.sub (List.sublist_cons_self _ _)⟩
end
end Go.Proofs.Ytnpemocpfdgaoaa

/- build: a node, instruction by instruction (printed by mkB5.py). -/
namespace Go.Proofs.Ytnpemocpfdgaoaa
open Go Go.Ab
set_option maxRecDepth 20000
set_option maxHeartbeats 2000000
def b8E (op : Int) : Prop := (op == 1) = false /\ (op == 2) = false /\ (op == 3) = false /\ (op == 4) = false /\ (op == 5) = false /\ (op == 6) = false /\ (op == 21) = false /\ (op == 31) = false /\ (op == 22) = false /\ (op == 23) = false /\ (op == 25) = false /\ (op == 24) = false /\ (op == 26) = false /\ (op == 27) = false /\ (op == 28) = false /\ (op == 29) = false /\ (op == 30) = false /\ (op == 32) = false
section
variable {p : Program} {f : Func} {b cl : Nat} {cs : List AV} {cell s : List Int} {at_ : Int} {i : Instr}
theorem c7C (B : NB p f cl cs cell s at_) (hi : j9 f.Code at_ = some i) (hop : i.Op = 21) :
  Tri Try.prog 54 [.ptr b 0 0, .int .i64 at_, .sl false 1 (s.map (avI .u8))] [(b, 0, cs), (cl, 0, flat (avI .i64) cell)] (fun x L' => x = b8.av { (⟨10, 0, 0, 0, 0, 0, 0, 0, 0, [], 0, 0⟩ : b8) with Next := o9 f at_ i } /\ L' = [(b, 0, cs), (cl, 0, flat (avI .i64) cell)]) := by
 have hs0 := B.hs
 refine Tri.weakr (r0 := .agg (nX (.nils) { (⟨10, 0, 0, 0, 0, 0, 0, 0, 0, [], 0, 0⟩ : b8) with Next := o9 f at_ i })) ?_ (a5s .nil)
 refine j7 mixed a1D zS [3, 5, 6, 7, 8, 11, 12] (fun R S hS => j4 B.hf B.hl zO hi hS (fun o3 o5 o6 o7 o8 o11 S hS => ?_))
 rw [hop]
 (repeat refine j6 rfl rfl ?_)
 refine b6N rfl rfl ?_
 refine aU ?_
 refine E_stS hS rfl (xv := .agg (nX (.nils) ⟨10, 0, 0, 0, 0, 0, 0, 0, 0, [], 0, 0⟩)) rfl Rp.here rfl rfl zqV (fun S hS => ?_)
 refine aU ?_
 refine aE ?_
 refine s9 (F := nF o3 o5 o6 o7 o8 o11 at_ f s) wF ?_
 refine g7 (a := .nils) (n := ⟨10, 0, 0, 0, 0, 0, 0, 0, 0, [], 0, 0⟩) ⟨rfl, rfl⟩ B.hf B.hn B.hat hS (fun S hS fr' hfr => ?_)
 exact ⟨trivial, _, f6 hfr (hS.at (.head _)) rfl, _, ⟨rfl, rfl⟩, hS.sub (List.sublist_cons_self _ _)⟩
theorem c7D (B : NB p f cl cs cell s at_) (hi : j9 f.Code at_ = some i) (hop : i.Op = 31) :
  Tri Try.prog 54 [.ptr b 0 0, .int .i64 at_, .sl false 1 (s.map (avI .u8))] [(b, 0, cs), (cl, 0, flat (avI .i64) cell)] (fun x L' => x = b8.av { (⟨10, 0, 0, 0, 0, 0, 0, 0, 0, [], 0, 0⟩ : b8) with Next := o9 f at_ i } /\ L' = [(b, 0, cs), (cl, 0, flat (avI .i64) cell)]) := by
 have hs0 := B.hs
 refine Tri.weakr (r0 := .agg (nX (.nils) { (⟨10, 0, 0, 0, 0, 0, 0, 0, 0, [], 0, 0⟩ : b8) with Next := o9 f at_ i })) ?_ (a5s .nil)
 refine j7 mixed a1D zS [3, 5, 6, 7, 8, 11, 12] (fun R S hS => j4 B.hf B.hl zO hi hS (fun o3 o5 o6 o7 o8 o11 S hS => ?_))
 rw [hop]
 (repeat refine j6 rfl rfl ?_)
 refine a0q rfl zD zD rfl rfl (fun _ => ?_) (fun h => by cases h)
 refine aU ?_
 refine E_stS hS rfl (xv := .agg (nX (.nils) ⟨10, 0, 0, 0, 0, 0, 0, 0, 0, [], 0, 0⟩)) rfl Rp.here rfl rfl zqV (fun S hS => ?_)
 refine aU ?_
 refine aE ?_
 refine s9 (F := nF o3 o5 o6 o7 o8 o11 at_ f s) wF ?_
 refine g7 (a := .nils) (n := ⟨10, 0, 0, 0, 0, 0, 0, 0, 0, [], 0, 0⟩) ⟨rfl, rfl⟩ B.hf B.hn B.hat hS (fun S hS fr' hfr => ?_)
 exact ⟨trivial, _, f6 hfr (hS.at (.head _)) rfl, _, ⟨rfl, rfl⟩, hS.sub (List.sublist_cons_self _ _)⟩
theorem c2S {t1 : Int} (B : NB p f cl cs cell s at_) (hi : j9 f.Code at_ = some i) (hop : i.Op = 24) (hR : f.Result = true) (h1 : a1C f s 1 = some t1) :
  Tri Try.prog 54 [.ptr b 0 0, .int .i64 at_, .sl false 1 (s.map (avI .u8))] [(b, 0, cs), (cl, 0, flat (avI .i64) cell)] (fun x L' => x = b8.av { (⟨12, 0, 0, 0, t1, 0, 0, 0, 0, [], 0, 0⟩ : b8) with Next := o9 f at_ i } /\ L' = [(b, 0, cs), (cl, 0, flat (avI .i64) cell)]) := by
 have hs0 := B.hs
 refine Tri.weakr (r0 := .agg (nX (.nils) { (⟨12, 0, 0, 0, t1, 0, 0, 0, 0, [], 0, 0⟩ : b8) with Next := o9 f at_ i })) ?_ (a5s .nil)
 refine j7 mixed a1D zS [3, 5, 6, 7, 8, 11, 12] (fun R S hS => j4 B.hf B.hl zO hi hS (fun o3 o5 o6 o7 o8 o11 S hS => ?_))
 rw [hop]
 (repeat refine j6 rfl rfl ?_)
 refine a0q rfl zD zD rfl rfl (fun h => by cases h) (fun _ => ?_)
 (repeat refine j6 rfl rfl ?_)
 refine x7 rfl rfl ?_
 refine aU ?_
 refine E_stS hS rfl (xv := .agg (nX (.nils) ⟨12, 0, 0, 0, -1, 0, 0, 0, 0, [], 0, 0⟩)) rfl Rp.here rfl rfl zqV (fun S hS => ?_)
 refine aU ?_
 refine b7 hS rfl (.tail _ (.tail _ (.tail _ (.tail _ (.tail _ (.head _)))))) (v := .ptr b 0 0) rfl ?_
 refine aU ?_
 refine b7 hS rfl (.tail _ (.tail _ (.tail _ (.tail _ (.tail _ (.tail _ (.head _))))))) (v := .cptr (Func.cells f) 0) B.hf ?_
 refine aU ?_
 refine E_cs (t := true) (by show AV.bool f.Result = _; rw [hR]) (fun _ => ?_) (fun h => by cases h)
 refine aU ?_
 refine p9 (q6 (b := b) (o3 := o3) (o5 := o5) (o8 := o8) B h1) hS rfl x5 rfl (Spl.cons (Pk.there (Pk.there (Pk.there (Pk.there (Pk.there Pk.here))))) (Spl.cons (Pk.there Pk.here) (Spl.cons (Pk.there (Pk.there (Pk.there Pk.here))) (Spl.cons (Pk.there (Pk.there (Pk.there Pk.here))) Spl.nil)))) ?_
 refine aU ?_
 refine E_stS hS rfl (xv := .int .i64 t1) rfl Rp.here rfl rfl zqV (fun S hS => ?_)
 refine aU ?_
 refine aE ?_
 refine s9 (F := nF o3 o5 o6 o7 o8 o11 at_ f s) wF ?_
 refine g7 (a := .nils) (n := ⟨12, 0, 0, 0, t1, 0, 0, 0, 0, [], 0, 0⟩) ⟨rfl, rfl⟩ B.hf B.hn B.hat hS (fun S hS fr' hfr => ?_)
 exact ⟨trivial, _, f6 hfr (hS.at (.head _)) rfl, _, ⟨rfl, rfl⟩, hS.sub (List.sublist_cons_self _ _)⟩
theorem c2T (B : NB p f cl cs cell s at_) (hi : j9 f.Code at_ = some i) (hop : i.Op = 24) (hR : f.Result = false) :
  Tri Try.prog 54 [.ptr b 0 0, .int .i64 at_, .sl false 1 (s.map (avI .u8))] [(b, 0, cs), (cl, 0, flat (avI .i64) cell)] (fun x L' => x = b8.av { (⟨12, 0, 0, 0, -1, 0, 0, 0, 0, [], 0, 0⟩ : b8) with Next := o9 f at_ i } /\ L' = [(b, 0, cs), (cl, 0, flat (avI .i64) cell)]) := by
 have hs0 := B.hs
 refine Tri.weakr (r0 := .agg (nX (.nils) { (⟨12, 0, 0, 0, -1, 0, 0, 0, 0, [], 0, 0⟩ : b8) with Next := o9 f at_ i })) ?_ (a5s .nil)
 refine j7 mixed a1D zS [3, 5, 6, 7, 8, 11, 12] (fun R S hS => j4 B.hf B.hl zO hi hS (fun o3 o5 o6 o7 o8 o11 S hS => ?_))
 rw [hop]
 (repeat refine j6 rfl rfl ?_)
 refine a0q rfl zD zD rfl rfl (fun h => by cases h) (fun _ => ?_)
 (repeat refine j6 rfl rfl ?_)
 refine x7 rfl rfl ?_
 refine aU ?_
 refine E_stS hS rfl (xv := .agg (nX (.nils) ⟨12, 0, 0, 0, -1, 0, 0, 0, 0, [], 0, 0⟩)) rfl Rp.here rfl rfl zqV (fun S hS => ?_)
 refine aU ?_
 refine b7 hS rfl (.tail _ (.tail _ (.tail _ (.tail _ (.tail _ (.head _)))))) (v := .ptr b 0 0) rfl ?_
 refine aU ?_
 refine b7 hS rfl (.tail _ (.tail _ (.tail _ (.tail _ (.tail _ (.tail _ (.head _))))))) (v := .cptr (Func.cells f) 0) B.hf ?_
 refine aU ?_
 refine E_cs (t := false) (by show AV.bool f.Result = _; rw [hR]) (fun h => by cases h) (fun _ => ?_)
 refine aU ?_
 refine aE ?_
 refine s9 (F := nF o3 o5 o6 o7 o8 o11 at_ f s) wF ?_
 refine g7 (a := .nils) (n := ⟨12, 0, 0, 0, -1, 0, 0, 0, 0, [], 0, 0⟩) ⟨rfl, rfl⟩ B.hf B.hn B.hat hS (fun S hS fr' hfr => ?_)
 exact ⟨trivial, _, f6 hfr (hS.at (.head _)) rfl, _, ⟨rfl, rfl⟩, hS.sub (List.sublist_cons_self _ _)⟩
theorem c2U {t1 t2 : Int} (B : NB p f cl cs cell s at_) (hi : j9 f.Code at_ = some i) (hop : b8E i.Op) (h1 : a1C f s 1 = some t1) (h2 : a1C f s 2 = some t2) :
  Tri Try.prog 54 [.ptr b 0 0, .int .i64 at_, .sl false 1 (s.map (avI .u8))] [(b, 0, cs), (cl, 0, flat (avI .i64) cell)] (fun x L' => x = b8.av { (⟨3, i.Op, t2, 0, t2, t1, 0, 0, 0, [], 0, 0⟩ : b8) with Next := o9 f at_ i } /\ L' = [(b, 0, cs), (cl, 0, flat (avI .i64) cell)]) := by
 have hs0 := B.hs
 refine Tri.weakr (r0 := .agg (nX (.nils) { (⟨3, i.Op, t2, 0, t2, t1, 0, 0, 0, [], 0, 0⟩ : b8) with Next := o9 f at_ i })) ?_ (a5s .nil)
 refine j7 mixed a1D zS [3, 5, 6, 7, 8, 11, 12] (fun R S hS => j4 B.hf B.hl zO hi hS (fun o3 o5 o6 o7 o8 o11 S hS => ?_))
 obtain ⟨o1_, o2_, o3_, o4_, o5_, o6_, o21_, o31_, o22_, o23_, o25_, o24_, o26_, o27_, o28_, o29_, o30_, o32_⟩ := hop
 refine j6 rfl o1_ (j6 rfl o2_ (j6 rfl o3_ (j6 rfl o4_ (j6 rfl o5_ (j6 rfl o6_ (a0q rfl zD zD o21_ o31_ (fun h => by cases h) (fun _ => j6 rfl o22_ (j6 rfl o23_ (j6 rfl o25_ (j6 rfl o24_ (j6 rfl o26_ (j6 rfl o27_ (j6 rfl o28_ (j6 rfl o29_ (j6 rfl o30_ (j6 rfl o32_ (?_)))))))))))))))))
 refine s4 ?_
 refine aU ?_
 refine b7 hS rfl (.tail _ (.tail _ (.head _))) (v := .int .u8 i.Op) rfl ?_
 refine aU ?_
 refine p9 (q6 (b := b) (o3 := o3) (o5 := o5) (o8 := o8) B h2) hS rfl x5 rfl (Spl.cons (Pk.there (Pk.there (Pk.there (Pk.there (Pk.there Pk.here))))) (Spl.cons (Pk.there Pk.here) (Spl.cons (Pk.there (Pk.there (Pk.there Pk.here))) (Spl.cons (Pk.there (Pk.there (Pk.there Pk.here))) Spl.nil)))) ?_
 refine aU ?_
 refine p9 (q6 (b := b) (o3 := o3) (o5 := o5) (o8 := o8) B h2) hS rfl x5 rfl (Spl.cons (Pk.there (Pk.there (Pk.there (Pk.there (Pk.there Pk.here))))) (Spl.cons (Pk.there Pk.here) (Spl.cons (Pk.there (Pk.there (Pk.there Pk.here))) (Spl.cons (Pk.there (Pk.there (Pk.there Pk.here))) Spl.nil)))) ?_
 refine aU ?_
 refine p9 (q6 (b := b) (o3 := o3) (o5 := o5) (o8 := o8) B h1) hS rfl x5 rfl (Spl.cons (Pk.there (Pk.there (Pk.there (Pk.there (Pk.there Pk.here))))) (Spl.cons (Pk.there Pk.here) (Spl.cons (Pk.there (Pk.there (Pk.there Pk.here))) (Spl.cons (Pk.there (Pk.there (Pk.there Pk.here))) Spl.nil)))) ?_
 refine aU ?_
 refine E_stS hS rfl (xv := .agg (nX (.nils) ⟨3, i.Op, t2, 0, t2, t1, 0, 0, 0, [], 0, 0⟩)) rfl Rp.here rfl rfl zqV (fun S hS => ?_)
 refine a7 ?_
 refine And.intro (by simp [u7, a1u, r5, y8]) ?_
 refine aE ?_
 refine s9 (F := nF o3 o5 o6 o7 o8 o11 at_ f s) wF ?_
 refine g7 (a := .nils) (n := ⟨3, i.Op, t2, 0, t2, t1, 0, 0, 0, [], 0, 0⟩) ⟨rfl, rfl⟩ B.hf B.hn B.hat hS (fun S hS fr' hfr => ?_)
 exact ⟨trivial, _, f6 hfr (hS.at (.head _)) rfl, _, ⟨rfl, rfl⟩, hS.sub (List.sublist_cons_self _ _)⟩
theorem c7E {g : Func} {m : Nat} (B : NB p f cl cs cell s at_) (hi : j9 f.Code at_ = some i) (hop : i.Op = 25) (hg : j9 p.Funcs i.Arg = some g) (hm : (s.length : Int) - g.Params = (m : Int)) (hm2 : m <= s.length) :
  Tri Try.prog 54 [.ptr b 0 0, .int .i64 at_, .sl false 1 (s.map (avI .u8))] [(b, 0, cs), (cl, 0, flat (avI .i64) cell)] (fun x L' => x = b8.av { (⟨13, 0, 0, 0, 0, 0, i.Arg, 0, 0, m9 f s m (s.length - m), 0, 0⟩ : b8) with Next := o9 f at_ i } /\ L' = [(b, 0, cs), (cl, 0, flat (avI .i64) cell)]) := by
 have hs0 := B.hs
 refine Tri.weakr (r0 := .agg (nX (.sl false 1 ((m9 f s m (s.length - m)).map (avI .i64))) { (⟨13, 0, 0, 0, 0, 0, i.Arg, 0, 0, m9 f s m (s.length - m), 0, 0⟩ : b8) with Next := o9 f at_ i })) ?_ (a5s (.refl _))
 refine j7 mixed a1D zS [3, 5, 6, 7, 8, 11, 12] (fun R S hS => j4 B.hf B.hl zO hi hS (fun o3 o5 o6 o7 o8 o11 S hS => ?_))
 rw [hop]
 (repeat refine j6 rfl rfl ?_)
 refine a0q rfl zD zD rfl rfl (fun h => by cases h) (fun _ => ?_)
 (repeat refine j6 rfl rfl ?_)
 refine x7 rfl rfl ?_
 refine s4 ?_
 refine aU ?_
 refine b7 hS rfl (.tail _ (.tail _ (.head _))) (v := .int .i64 i.Arg) rfl ?_
 refine aU ?_
 refine b7 hS rfl (.tail _ (.tail _ (.tail _ (.tail _ (.tail _ (.head _)))))) (v := .ptr b 0 0) rfl ?_
 refine aU ?_
 refine b7 hS rfl (.tail _ (.tail _ (.tail _ (.tail _ (.head _))))) (v := .sl false 1 (s.map (avI .u8))) rfl ?_
 refine aU ?_
 refine b7 hS rfl (.tail _ (.tail _ (.head _))) (v := .int .i64 i.Arg) rfl ?_
 refine aU ?_
 have hm1 := hS.at (.tail _ (.tail _ (.head _)))
 refine a2S (a4T (p := p) (f := f) (b := b) (cs := cs) (s := s) (fi := i.Arg) (g := g) (n := m) B.p0 B.hf B.hl zO B.hk hg hm hm2) hS rfl (Spl.cons (Pk.there (Pk.there (Pk.there (Pk.there (Pk.there (Pk.there (Pk.here))))))) Spl.nil) (fun x S L' hL hS => ?_)
 obtain ⟨rfl, rfl⟩ := hL
 have hS2 : Ab.Sep S (nLs b cl o3 o5 o6 o7 o8 o11 cs cell s i (.nils) zN R) := hS.perm (Spl.cons (Pk.there Pk.here) (Spl.cons (Pk.there Pk.here) (Spl.cons (Pk.there Pk.here) (Spl.cons (Pk.there Pk.here) (Spl.cons (Pk.there Pk.here) (Spl.cons (Pk.there Pk.here) (Spl.cons Pk.here (Spl.cons Pk.here (.refl _)))))))))
 clear hS
 have hS := hS2
 clear hS2
 have hm3 := hS.at (.tail _ (.tail _ (.head _)))
 refine aU ?_
 refine E_stS hS rfl (xv := .agg (nX (.sl false 1 ((m9 f s m (s.length - m)).map (avI .i64))) ⟨13, 0, 0, 0, 0, 0, i.Arg, 0, 0, m9 f s m (s.length - m), 0, 0⟩)) rfl Rp.here rfl rfl zqV (fun S hS => ?_)
 refine a7 ?_
 refine And.intro ⟨⟨rfl, fun x hx => by rw [List.mem_singleton.1 hx]; exact hm3.trans hm1.symm⟩, trivial⟩ ?_
 refine aE ?_
 refine s9 (F := nF o3 o5 o6 o7 o8 o11 at_ f s) wF ?_
 refine g7 (a := .sl false 1 ((m9 f s m (s.length - m)).map (avI .i64))) (n := ⟨13, 0, 0, 0, 0, 0, i.Arg, 0, 0, m9 f s m (s.length - m), 0, 0⟩) ⟨rfl, rfl⟩ B.hf B.hn B.hat hS (fun S hS fr' hfr => ?_)
 exact ⟨trivial, _, f6 hfr (hS.at (.head _)) rfl, _, ⟨rfl, rfl⟩, hS.sub (List.sublist_cons_self _ _)⟩
theorem c2V {g : Func} {m : Nat} (B : NB p f cl cs cell s at_) (hi : j9 f.Code at_ = some i) (hop : i.Op = 23) (hg : j9 p.Funcs i.Arg = some g) (hm : (s.length : Int) - g.Params = (m : Int)) (hm2 : m <= s.length) (hR : g.Result = false) :
  Tri Try.prog 54 [.ptr b 0 0, .int .i64 at_, .sl false 1 (s.map (avI .u8))] [(b, 0, cs), (cl, 0, flat (avI .i64) cell)] (fun x L' => x = b8.av { (⟨11, 0, -1, 0, 0, 0, i.Arg, 0, 0, m9 f s m (s.length - m), 0, 0⟩ : b8) with Next := o9 f at_ i } /\ L' = [(b, 0, cs), (cl, 0, flat (avI .i64) cell)]) := by
 have hs0 := B.hs
 refine Tri.weakr (r0 := .agg (nX (.sl false 1 ((m9 f s m (s.length - m)).map (avI .i64))) { (⟨11, 0, -1, 0, 0, 0, i.Arg, 0, 0, m9 f s m (s.length - m), 0, 0⟩ : b8) with Next := o9 f at_ i })) ?_ (a5s (.refl _))
 refine j7 mixed a1D zS [3, 5, 6, 7, 8, 11, 12] (fun R S hS => j4 B.hf B.hl zO hi hS (fun o3 o5 o6 o7 o8 o11 S hS => ?_))
 rw [hop]
 (repeat refine j6 rfl rfl ?_)
 refine a0q rfl zD zD rfl rfl (fun h => by cases h) (fun _ => ?_)
 (repeat refine j6 rfl rfl ?_)
 refine x7 rfl rfl ?_
 refine c7 ?_
 refine s4 ?_
 refine aU ?_
 refine b7 hS rfl (.tail _ (.tail _ (.tail _ (.tail _ (.tail _ (.head _)))))) (v := .ptr b 0 0) rfl ?_
 refine aU ?_
 refine b7 hS rfl (.tail _ (.tail _ (.tail _ (.tail _ (.tail _ (.tail _ (.head _))))))) (v := .cptr (Program.cells p) 0) B.p0 ?_
 refine aU ?_
 refine b7 hS rfl (.tail _ (.tail _ (.head _))) (v := .int .i64 i.Arg) rfl ?_
 refine aU ?_
 refine g8 (esh := some 5) (f := Func.av) (ys := p.Funcs) (y := g) rfl rfl hg ?_
 refine aU ?_
 refine z7 hS rfl (fun o12 S hS => ?_)
 have no3 : o3 ≠ o12 := fun e => (List.nodup_cons.1 hS.2).1 (by rw [<- e]; exact List.mem_map.2 ⟨_, (.tail _ (.tail _ (.tail _ (.tail _ (.tail _ (.head _)))))), rfl⟩)
 have nb : b ≠ o12 := fun e => (List.nodup_cons.1 hS.2).1 (by rw [<- e]; exact List.mem_map.2 ⟨_, (.tail _ (.tail _ (.tail _ (.tail _ (.tail _ (.tail _ (.head _))))))), rfl⟩)
 have no7 : o7 ≠ o12 := fun e => (List.nodup_cons.1 hS.2).1 (by rw [<- e]; exact List.mem_map.2 ⟨_, (.tail _ (.tail _ (.head _))), rfl⟩)
 refine E_stS hS rfl (xv := g.av) rfl Rp.here rfl rfl zqV (fun S hS => ?_)
 refine a7 ?_
 refine And.intro (by simp [u7, a1u, r5, y8, no3, nb, no7, Ne.symm no3, Ne.symm nb, Ne.symm no7]) ?_
 refine d7 ?_
 refine c7 ?_
 refine s4 ?_
 refine aU ?_
 refine b7 hS rfl (.tail _ (.tail _ (.tail _ (.head _)))) (v := .int .i64 i.Arg) rfl ?_
 refine aU ?_
 refine b7 hS rfl (.tail _ (.tail _ (.tail _ (.tail _ (.tail _ (.tail _ (.head _))))))) (v := .ptr b 0 0) rfl ?_
 refine aU ?_
 refine b7 hS rfl (.tail _ (.tail _ (.tail _ (.tail _ (.tail _ (.head _)))))) (v := .sl false 1 (s.map (avI .u8))) rfl ?_
 refine aU ?_
 refine b7 hS rfl (.tail _ (.tail _ (.tail _ (.head _)))) (v := .int .i64 i.Arg) rfl ?_
 refine aU ?_
 have hm1 := hS.at (.tail _ (.tail _ (.tail _ (.head _))))
 refine a2S (a4T (p := p) (f := f) (b := b) (cs := cs) (s := s) (fi := i.Arg) (g := g) (n := m) B.p0 B.hf B.hl zO B.hk hg hm hm2) hS rfl (Spl.cons (Pk.there (Pk.there (Pk.there (Pk.there (Pk.there (Pk.there (Pk.there (Pk.here)))))))) Spl.nil) (fun x S L' hL hS => ?_)
 obtain ⟨rfl, rfl⟩ := hL
 have hS2 : Ab.Sep S ((o12, 0, g.cells) :: nLs b cl o3 o5 o6 o7 o8 o11 cs cell s i (.nils) zN R) := hS.perm (Spl.cons (Pk.there Pk.here) (Spl.cons (Pk.there Pk.here) (Spl.cons (Pk.there Pk.here) (Spl.cons (Pk.there Pk.here) (Spl.cons (Pk.there Pk.here) (Spl.cons (Pk.there Pk.here) (Spl.cons (Pk.there Pk.here) (Spl.cons Pk.here (Spl.cons Pk.here (.refl _))))))))))
 clear hS
 have hS := hS2
 clear hS2
 have hm3 := hS.at (.tail _ (.tail _ (.tail _ (.head _))))
 refine aU ?_
 refine E_stS hS rfl (xv := .agg (nX (.sl false 1 ((m9 f s m (s.length - m)).map (avI .i64))) ⟨11, 0, -1, 0, 0, 0, i.Arg, 0, 0, m9 f s m (s.length - m), 0, 0⟩)) rfl (Rp.there Rp.here) rfl rfl zqV (fun S hS => ?_)
 refine a7 ?_
 refine And.intro ⟨⟨rfl, fun x hx => by rw [List.mem_singleton.1 hx]; exact hm3.trans hm1.symm⟩, trivial⟩ ?_
 refine aU ?_
 refine b7 hS rfl (.head _) (v := .bool g.Result) rfl ?_
 refine aU ?_
 refine E_cs (t := false) (by show AV.bool g.Result = _; rw [hR]) (fun h => by cases h) (fun _ => ?_)
 refine aU ?_
 have hS2 : Ab.Sep S (nLs b cl o3 o5 o6 o7 o8 o11 cs cell s i (.sl false 1 ((m9 f s m (s.length - m)).map (avI .i64))) ⟨11, 0, -1, 0, 0, 0, i.Arg, 0, 0, m9 f s m (s.length - m), 0, 0⟩ R) := hS.sub (List.sublist_cons_self _ _)
 clear hS
 have hS := hS2
 refine aE ?_
 refine s9 (F := nF o3 o5 o6 o7 o8 o11 at_ f s) wF ?_
 refine g7 (a := .sl false 1 ((m9 f s m (s.length - m)).map (avI .i64))) (n := ⟨11, 0, -1, 0, 0, 0, i.Arg, 0, 0, m9 f s m (s.length - m), 0, 0⟩) ⟨rfl, rfl⟩ B.hf B.hn B.hat hS (fun S hS fr' hfr => ?_)
 exact ⟨trivial, _, f6 hfr (hS.at (.head _)) rfl, _, ⟨rfl, rfl⟩, hS.sub (List.sublist_cons_self _ _)⟩
theorem c2W {g : Func} {m : Nat} (B : NB p f cl cs cell s at_) (hi : j9 f.Code at_ = some i) (hop : i.Op = 23) (hg : j9 p.Funcs i.Arg = some g) (hm : (s.length : Int) - g.Params = (m : Int)) (hm2 : m <= s.length) (hR : g.Result = true) :
  Tri Try.prog 54 [.ptr b 0 0, .int .i64 at_, .sl false 1 (s.map (avI .u8))] [(b, 0, cs), (cl, 0, flat (avI .i64) cell)] (fun x L' => x = b8.av { (⟨11, 0, i9 f ((s.length : Int) - g.Params) 0, 0, 0, 0, i.Arg, 0, 0, m9 f s m (s.length - m), 0, 0⟩ : b8) with Next := o9 f at_ i } /\ L' = [(b, 0, cs), (cl, 0, flat (avI .i64) cell)]) := by
 have hs0 := B.hs
 refine Tri.weakr (r0 := .agg (nX (.sl false 1 ((m9 f s m (s.length - m)).map (avI .i64))) { (⟨11, 0, i9 f ((s.length : Int) - g.Params) 0, 0, 0, 0, i.Arg, 0, 0, m9 f s m (s.length - m), 0, 0⟩ : b8) with Next := o9 f at_ i })) ?_ (a5s (.refl _))
 refine j7 mixed a1D zS [3, 5, 6, 7, 8, 11, 12] (fun R S hS => j4 B.hf B.hl zO hi hS (fun o3 o5 o6 o7 o8 o11 S hS => ?_))
 rw [hop]
 (repeat refine j6 rfl rfl ?_)
 refine a0q rfl zD zD rfl rfl (fun h => by cases h) (fun _ => ?_)
 (repeat refine j6 rfl rfl ?_)
 refine x7 rfl rfl ?_
 refine c7 ?_
 refine s4 ?_
 refine aU ?_
 refine b7 hS rfl (.tail _ (.tail _ (.tail _ (.tail _ (.tail _ (.head _)))))) (v := .ptr b 0 0) rfl ?_
 refine aU ?_
 refine b7 hS rfl (.tail _ (.tail _ (.tail _ (.tail _ (.tail _ (.tail _ (.head _))))))) (v := .cptr (Program.cells p) 0) B.p0 ?_
 refine aU ?_
 refine b7 hS rfl (.tail _ (.tail _ (.head _))) (v := .int .i64 i.Arg) rfl ?_
 refine aU ?_
 refine g8 (esh := some 5) (f := Func.av) (ys := p.Funcs) (y := g) rfl rfl hg ?_
 refine aU ?_
 refine z7 hS rfl (fun o12 S hS => ?_)
 have no3 : o3 ≠ o12 := fun e => (List.nodup_cons.1 hS.2).1 (by rw [<- e]; exact List.mem_map.2 ⟨_, (.tail _ (.tail _ (.tail _ (.tail _ (.tail _ (.head _)))))), rfl⟩)
 have nb : b ≠ o12 := fun e => (List.nodup_cons.1 hS.2).1 (by rw [<- e]; exact List.mem_map.2 ⟨_, (.tail _ (.tail _ (.tail _ (.tail _ (.tail _ (.tail _ (.head _))))))), rfl⟩)
 have no7 : o7 ≠ o12 := fun e => (List.nodup_cons.1 hS.2).1 (by rw [<- e]; exact List.mem_map.2 ⟨_, (.tail _ (.tail _ (.head _))), rfl⟩)
 refine E_stS hS rfl (xv := g.av) rfl Rp.here rfl rfl zqV (fun S hS => ?_)
 refine a7 ?_
 refine And.intro (by simp [u7, a1u, r5, y8, no3, nb, no7, Ne.symm no3, Ne.symm nb, Ne.symm no7]) ?_
 refine d7 ?_
 refine c7 ?_
 refine s4 ?_
 refine aU ?_
 refine b7 hS rfl (.tail _ (.tail _ (.tail _ (.head _)))) (v := .int .i64 i.Arg) rfl ?_
 refine aU ?_
 refine b7 hS rfl (.tail _ (.tail _ (.tail _ (.tail _ (.tail _ (.tail _ (.head _))))))) (v := .ptr b 0 0) rfl ?_
 refine aU ?_
 refine b7 hS rfl (.tail _ (.tail _ (.tail _ (.tail _ (.tail _ (.head _)))))) (v := .sl false 1 (s.map (avI .u8))) rfl ?_
 refine aU ?_
 refine b7 hS rfl (.tail _ (.tail _ (.tail _ (.head _)))) (v := .int .i64 i.Arg) rfl ?_
 refine aU ?_
 have hm1 := hS.at (.tail _ (.tail _ (.tail _ (.head _))))
 refine a2S (a4T (p := p) (f := f) (b := b) (cs := cs) (s := s) (fi := i.Arg) (g := g) (n := m) B.p0 B.hf B.hl zO B.hk hg hm hm2) hS rfl (Spl.cons (Pk.there (Pk.there (Pk.there (Pk.there (Pk.there (Pk.there (Pk.there (Pk.here)))))))) Spl.nil) (fun x S L' hL hS => ?_)
 obtain ⟨rfl, rfl⟩ := hL
 have hS2 : Ab.Sep S ((o12, 0, g.cells) :: nLs b cl o3 o5 o6 o7 o8 o11 cs cell s i (.nils) zN R) := hS.perm (Spl.cons (Pk.there Pk.here) (Spl.cons (Pk.there Pk.here) (Spl.cons (Pk.there Pk.here) (Spl.cons (Pk.there Pk.here) (Spl.cons (Pk.there Pk.here) (Spl.cons (Pk.there Pk.here) (Spl.cons (Pk.there Pk.here) (Spl.cons Pk.here (Spl.cons Pk.here (.refl _))))))))))
 clear hS
 have hS := hS2
 clear hS2
 have hm3 := hS.at (.tail _ (.tail _ (.tail _ (.head _))))
 refine aU ?_
 refine E_stS hS rfl (xv := .agg (nX (.sl false 1 ((m9 f s m (s.length - m)).map (avI .i64))) ⟨11, 0, -1, 0, 0, 0, i.Arg, 0, 0, m9 f s m (s.length - m), 0, 0⟩)) rfl (Rp.there Rp.here) rfl rfl zqV (fun S hS => ?_)
 refine a7 ?_
 refine And.intro ⟨⟨rfl, fun x hx => by rw [List.mem_singleton.1 hx]; exact hm3.trans hm1.symm⟩, trivial⟩ ?_
 refine aU ?_
 refine b7 hS rfl (.head _) (v := .bool g.Result) rfl ?_
 refine aU ?_
 refine E_cs (t := true) (by show AV.bool g.Result = _; rw [hR]) (fun _ => ?_) (fun h => by cases h)
 refine aU ?_
 refine b7 hS rfl (.tail _ (.tail _ (.tail _ (.tail _ (.tail _ (.tail _ (.head _))))))) (v := .ptr b 0 0) rfl ?_
 refine aU ?_
 refine b7 hS rfl (.tail _ (.tail _ (.head _))) (v := .int .i64 s.length) rfl ?_
 refine aU ?_
 refine b7 hS rfl (.head _) (v := .int .i64 g.Params) rfl ?_
 refine aU ?_
 rw [p4 (x := (s.length : Int) - g.Params) zO]
 refine a7f (w7 (b := b) (d := (s.length : Int) - g.Params) (k := 0) B.hf B.hl zO zO) hS rfl (Spl.cons (Pk.there (Pk.there (Pk.there (Pk.there (Pk.there (Pk.there (Pk.there Pk.here))))))) Spl.nil) ?_
 refine aU ?_
 refine E_stS hS rfl (xv := .int .i64 (i9 f ((s.length : Int) - g.Params) 0)) rfl (Rp.there Rp.here) rfl rfl zqV (fun S hS => ?_)
 refine aU ?_
 have hS2 : Ab.Sep S (nLs b cl o3 o5 o6 o7 o8 o11 cs cell s i (.sl false 1 ((m9 f s m (s.length - m)).map (avI .i64))) ⟨11, 0, i9 f ((s.length : Int) - g.Params) 0, 0, 0, 0, i.Arg, 0, 0, m9 f s m (s.length - m), 0, 0⟩ R) := hS.sub (List.sublist_cons_self _ _)
 clear hS
 have hS := hS2
 refine aE ?_
 refine s9 (F := nF o3 o5 o6 o7 o8 o11 at_ f s) wF ?_
 refine g7 (a := .sl false 1 ((m9 f s m (s.length - m)).map (avI .i64))) (n := ⟨11, 0, i9 f ((s.length : Int) - g.Params) 0, 0, 0, 0, i.Arg, 0, 0, m9 f s m (s.length - m), 0, 0⟩) ⟨rfl, rfl⟩ B.hf B.hn B.hat hS (fun S hS fr' hfr => ?_)
 exact ⟨trivial, _, f6 hfr (hS.at (.head _)) rfl, _, ⟨rfl, rfl⟩, hS.sub (List.sublist_cons_self _ _)⟩
end
end Go.Proofs.Ytnpemocpfdgaoaa

