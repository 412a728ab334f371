/- sem.frame's Step, operation by operation (printed by mkW17.py). -/
import Derived.Test.YtnpemocpfdgaoaaSeW16
set_option linter.unusedVariables false
set_option linter.unusedSimpArgs false
namespace Go.Proofs.Ytnpemocpfdgaoaa
open Go Go.Ab
set_option maxRecDepth 20000
set_option maxHeartbeats 2000000
section
variable {a0 a4 a6 a7 : AV} {o : UO} {p : Program} {ek ev dep live : Int} {z : Row} {r : List Row} {ps ps' : List n9} {rj pj : List AV}
theorem b0V {k im : Int} (hi : r7 z.fr.f.Code z.fr.pc = some ⟨1, k, im⟩) (hpc : z.fr.pc < 4611686018427387904) (hs : z.fr.st.length < 100000000) :
  Tri Try.prog 142 [.ptr z.q.x 0 0, .ptr o.m 0 0] (uL p o a0 a4 a6 a7 ek ev dep live (z :: r) ps rj pj) (fun _ L' => ∃ f q, q.x = z.q.x ∧ f = { z.fr with pc := z.fr.pc + 1, st := im :: z.fr.st } ∧ L' = uL p o a0 a4 a6 a7 ek ev dep live ({ z with fr := f, q := q } :: r) ps rj pj) := by
 refine j9 mixed a2N zS [4] (fun R S hS => t6 hi hpc hS (fun oi S hS => ?_))
 refine aU ?_
 refine f5 hS rfl (List.mem_append_right _ (.head _)) (v := .int .u8 1) rfl ?_
 refine aU ?_
 refine g8 ?_
 refine aU ?_
 refine d9 (t := true) rfl (fun _ => ?_) (fun h => by cases h)
 refine aU ?_
 refine f5 hS rfl (List.mem_append_right _ (.head _)) (v := .int .u64 im) rfl ?_
 refine aU ?_
 refine a0d (a0b (z := { z with fr := { z.fr with pc := z.fr.pc + 1 } }) (ex := true) (vs := [im]) (by show z.fr.st.length < _; omega) zS) hS rfl (.refl _) (fun x S L' hL hS => ?_)
 obtain ⟨f, q, hq, rfl, rfl⟩ := hL
 refine aU ?_
 (repeat (first | refine i9 ?_ | refine j2 ?_ | refine j3 rfl ?_ | refine d7 ?_ | refine f7 ?_ | refine i7 ?_))
 exact ⟨trivial, _, rfl, _, ⟨_, q, hq, rfl, rfl⟩, a0h hS⟩
theorem b0W {k im : Int} {v : Int} (hi : r7 z.fr.f.Code z.fr.pc = some ⟨2, k, im⟩) (hpc : z.fr.pc < 4611686018427387904) (hs : z.fr.st.length < 100000000) (hv : r7 z.fr.lo k = some v) :
  Tri Try.prog 142 [.ptr z.q.x 0 0, .ptr o.m 0 0] (uL p o a0 a4 a6 a7 ek ev dep live (z :: r) ps rj pj) (fun _ L' => ∃ f q, q.x = z.q.x ∧ f = { z.fr with pc := z.fr.pc + 1, st := v :: z.fr.st } ∧ L' = uL p o a0 a4 a6 a7 ek ev dep live ({ z with fr := f, q := q } :: r) ps rj pj) := by
 refine j9 mixed a2N zS [4] (fun R S hS => t6 hi hpc hS (fun oi S hS => ?_))
 refine aU ?_
 refine f5 hS rfl (List.mem_append_right _ (.head _)) (v := .int .u8 2) rfl ?_
 refine aU ?_
 refine g8 ?_
 refine aU ?_
 refine d9 (t := false) rfl (fun h => by cases h) (fun _ => ?_)
 refine aU ?_
 refine d9 (t := true) rfl (fun _ => ?_) (fun h => by cases h)
 refine aU ?_
 refine f5 hS rfl a1V (v := .ref z.q.l 0 0 z.fr.lo.length none) rfl ?_
 refine aU ?_
 refine f5 hS rfl (List.mem_append_right _ (.head _)) (v := .int .i64 k) rfl ?_
 refine aU ?_
 obtain ⟨h1, h2, h3⟩ := g6 hv
 refine u6 rfl rfl k.toNat zO zO ?_
 refine b0x hS (f4 .u64) rfl (List.mem_append_left _ (.tail _ (.tail _ (.tail _ (.tail _ (.tail _ (.tail _ (.head _)))))))) (n := k.toNat) (fo := 0) (y := v) (by simp [c9]) h3 (v := .int .u64 v) rfl ?_
 refine aU ?_
 refine a0d (a0b (z := { z with fr := { z.fr with pc := z.fr.pc + 1 } }) (ex := true) (vs := [v]) (by show z.fr.st.length < _; omega) zS) hS rfl (.refl _) (fun x S L' hL hS => ?_)
 obtain ⟨f, q, hq, rfl, rfl⟩ := hL
 refine aU ?_
 (repeat (first | refine i9 ?_ | refine j2 ?_ | refine j3 rfl ?_ | refine d7 ?_ | refine f7 ?_ | refine i7 ?_))
 exact ⟨trivial, _, rfl, _, ⟨_, q, hq, rfl, rfl⟩, a0h hS⟩
theorem b0X {k im : Int} (hi : r7 z.fr.f.Code z.fr.pc = some ⟨4, k, im⟩) (hpc : z.fr.pc < 4611686018427387904) (hs : z.fr.st.length < 100000000) :
  Tri Try.prog 142 [.ptr z.q.x 0 0, .ptr o.m 0 0] (uL p o a0 a4 a6 a7 ek ev dep live (z :: r) ps rj pj) (fun _ L' => ∃ f q, q.x = z.q.x ∧ f = { z.fr with pc := z.fr.pc + 1, st := a8o z.fr.nu k :: z.fr.st } ∧ L' = uL p o a0 a4 a6 a7 ek ev dep live ({ z with fr := f, q := q } :: r) ps rj pj) := by
 refine j9 mixed a2N zS [4] (fun R S hS => t6 hi hpc hS (fun oi S hS => ?_))
 refine aU ?_
 refine f5 hS rfl (List.mem_append_right _ (.head _)) (v := .int .u8 4) rfl ?_
 refine aU ?_
 refine g8 ?_
 refine aU ?_
 refine d9 (t := false) rfl (fun h => by cases h) (fun _ => ?_)
 refine aU ?_
 refine d9 (t := false) rfl (fun h => by cases h) (fun _ => ?_)
 refine aU ?_
 refine d9 (t := false) rfl (fun h => by cases h) (fun _ => ?_)
 refine aU ?_
 refine d9 (t := true) rfl (fun _ => ?_) (fun h => by cases h)
 refine aU ?_
 refine f5 hS rfl a1V (v := .int .i64 z.fr.nu) rfl ?_
 refine aU ?_
 refine f5 hS rfl (List.mem_append_right _ (.head _)) (v := .int .i64 k) rfl ?_
 refine aU ?_
 refine b3V (a7q (a := z.fr.nu) (b := k)) hS rfl Spl.nil ?_
 refine aU ?_
 refine a0d (a0b (z := { z with fr := { z.fr with pc := z.fr.pc + 1 } }) (ex := true) (vs := [a8o z.fr.nu k]) (by show z.fr.st.length < _; omega) zS) hS rfl (.refl _) (fun x S L' hL hS => ?_)
 obtain ⟨f, q, hq, rfl, rfl⟩ := hL
 refine aU ?_
 (repeat (first | refine i9 ?_ | refine j2 ?_ | refine j3 rfl ?_ | refine d7 ?_ | refine f7 ?_ | refine i7 ?_))
 exact ⟨trivial, _, rfl, _, ⟨_, q, hq, rfl, rfl⟩, a0h hS⟩
theorem a8T {k im : Int} {v : Int} {st : List Int} (hi : r7 z.fr.f.Code z.fr.pc = some ⟨31, k, im⟩) (hpc : z.fr.pc < 4611686018427387904) (hst : z.fr.st = v :: st) (hs : st.length < 100000000) :
  Tri Try.prog 142 [.ptr z.q.x 0 0, .ptr o.m 0 0] (uL p o a0 a4 a6 a7 ek ev dep live (z :: r) ps rj pj) (fun _ L' => ∃ f q, q.x = z.q.x ∧ f = { z.fr with pc := z.fr.pc + 1, st := st } ∧ L' = uL p o a0 a4 a6 a7 ek ev dep live ({ z with fr := f, q := q } :: r) ps rj pj) := by
 refine j9 mixed a2N zS [4] (fun R S hS => t6 hi hpc hS (fun oi S hS => ?_))
 refine aU ?_
 refine f5 hS rfl (List.mem_append_right _ (.head _)) (v := .int .u8 31) rfl ?_
 refine aU ?_
 refine g8 ?_
 refine aU ?_
 refine d9 (t := false) rfl (fun h => by cases h) (fun _ => ?_)
 refine aU ?_
 refine d9 (t := false) rfl (fun h => by cases h) (fun _ => ?_)
 refine aU ?_
 refine d9 (t := false) rfl (fun h => by cases h) (fun _ => ?_)
 refine aU ?_
 refine d9 (t := false) rfl (fun h => by cases h) (fun _ => ?_)
 refine aU ?_
 refine d9 (t := false) rfl (fun h => by cases h) (fun _ => ?_)
 refine aU ?_
 refine d9 (t := false) rfl (fun h => by cases h) (fun _ => ?_)
 refine aU ?_
 refine d9 (t := false) rfl (fun h => by cases h) (fun _ => ?_)
 refine aU ?_
 refine d9 (t := false) rfl (fun h => by cases h) (fun _ => ?_)
 refine aU ?_
 refine d9 (t := true) rfl (fun _ => ?_) (fun h => by cases h)
 refine aU ?_
 refine a0d (q8 (z := { z with fr := { z.fr with pc := z.fr.pc + 1 } }) hst zO) hS rfl (.refl _) (fun x S L' hL hS => ?_)
 obtain ⟨f, q, hq, ⟨rfl, rfl⟩, rfl⟩ := hL
 refine aU ?_
 (repeat (first | refine i9 ?_ | refine j2 ?_ | refine j3 rfl ?_ | refine d7 ?_ | refine f7 ?_ | refine i7 ?_))
 exact ⟨trivial, _, rfl, _, ⟨_, q, hq, rfl, rfl⟩, a0h hS⟩
theorem c1Q {k : Int} {R : List It} : Rp (uL p o a0 a4 a6 a7 ek ev dep live (z :: r) ps rj pj ++ R) (z.q.x, 0, frC p z.fr z.q) (z.q.x, 0, splice (frC p z.fr z.q) (0 + 4) [.int .i64 k]) (uL p o a0 a4 a6 a7 ek ev dep live ({ z with fr := { z.fr with pc := k } } :: r) ps rj pj ++ R) :=
 Rp.there (Rp.there (Rp.there (Rp.there (Rp.there Rp.here))))
theorem a8U {k im : Int} (hi : r7 z.fr.f.Code z.fr.pc = some ⟨21, k, im⟩) (hpc : z.fr.pc < 4611686018427387904) :
  Tri Try.prog 142 [.ptr z.q.x 0 0, .ptr o.m 0 0] (uL p o a0 a4 a6 a7 ek ev dep live (z :: r) ps rj pj) (fun _ L' => ∃ f q, q.x = z.q.x ∧ f = { z.fr with pc := k } ∧ L' = uL p o a0 a4 a6 a7 ek ev dep live ({ z with fr := f, q := q } :: r) ps rj pj) := by
 refine j9 mixed a2N zS [4] (fun R S hS => t6 hi hpc hS (fun oi S hS => ?_))
 refine aU ?_
 refine f5 hS rfl (List.mem_append_right _ (.head _)) (v := .int .u8 21) rfl ?_
 refine aU ?_
 refine g8 ?_
 refine aU ?_
 refine d9 (t := false) rfl (fun h => by cases h) (fun _ => ?_)
 refine aU ?_
 refine d9 (t := false) rfl (fun h => by cases h) (fun _ => ?_)
 refine aU ?_
 refine d9 (t := false) rfl (fun h => by cases h) (fun _ => ?_)
 refine aU ?_
 refine d9 (t := false) rfl (fun h => by cases h) (fun _ => ?_)
 refine aU ?_
 refine d9 (t := false) rfl (fun h => by cases h) (fun _ => ?_)
 refine aU ?_
 refine d9 (t := false) rfl (fun h => by cases h) (fun _ => ?_)
 refine aU ?_
 refine d9 (t := true) rfl (fun _ => ?_) (fun h => by cases h)
 refine aU ?_
 refine f5 hS rfl (List.mem_append_right _ (.head _)) (v := .int .i64 k) rfl ?_
 refine aU ?_
 refine E_stS hS rfl (xv := .int .i64 k) rfl (c1Q (k := k)) rfl rfl (by first | exact Nat.le_of_ble_eq_true rfl | (simp; omega) | omega) (fun S hS => ?_)
 refine aU ?_
 (repeat (first | refine i9 ?_ | refine j2 ?_ | refine j3 rfl ?_ | refine d7 ?_ | refine f7 ?_ | refine i7 ?_))
 exact ⟨trivial, _, rfl, _, ⟨_, z.q, rfl, rfl, rfl⟩, a0h hS⟩
theorem a7u {k im : Int} {st : List Int} (hi : r7 z.fr.f.Code z.fr.pc = some ⟨22, k, im⟩) (hpc : z.fr.pc < 4611686018427387904) (hst : z.fr.st = 0 :: st) (hs : st.length < 100000000) :
  Tri Try.prog 142 [.ptr z.q.x 0 0, .ptr o.m 0 0] (uL p o a0 a4 a6 a7 ek ev dep live (z :: r) ps rj pj) (fun _ L' => ∃ f q, q.x = z.q.x ∧ f = { z.fr with pc := k, st := st } ∧ L' = uL p o a0 a4 a6 a7 ek ev dep live ({ z with fr := f, q := q } :: r) ps rj pj) := by
 refine j9 mixed a2N zS [4] (fun R S hS => t6 hi hpc hS (fun oi S hS => ?_))
 refine aU ?_
 refine f5 hS rfl (List.mem_append_right _ (.head _)) (v := .int .u8 22) rfl ?_
 refine aU ?_
 refine g8 ?_
 refine aU ?_
 refine d9 (t := false) rfl (fun h => by cases h) (fun _ => ?_)
 refine aU ?_
 refine d9 (t := false) rfl (fun h => by cases h) (fun _ => ?_)
 refine aU ?_
 refine d9 (t := false) rfl (fun h => by cases h) (fun _ => ?_)
 refine aU ?_
 refine d9 (t := false) rfl (fun h => by cases h) (fun _ => ?_)
 refine aU ?_
 refine d9 (t := false) rfl (fun h => by cases h) (fun _ => ?_)
 refine aU ?_
 refine d9 (t := false) rfl (fun h => by cases h) (fun _ => ?_)
 refine aU ?_
 refine d9 (t := false) rfl (fun h => by cases h) (fun _ => ?_)
 refine aU ?_
 refine d9 (t := true) rfl (fun _ => ?_) (fun h => by cases h)
 refine aU ?_
 refine a0d (q8 (z := { z with fr := { z.fr with pc := z.fr.pc + 1 } }) hst zO) hS rfl (.refl _) (fun x S L' hL hS => ?_)
 obtain ⟨f, q, hq, ⟨rfl, rfl⟩, rfl⟩ := hL
 refine aU ?_
 refine d9 (t := true) rfl (fun _ => ?_) (fun h => by cases h)
 refine aU ?_
 refine f5 hS rfl (List.mem_append_right _ (.head _)) (v := .int .i64 k) rfl ?_
 refine aU ?_
 refine E_stS hS (by show AV.ptr z.q.x 0 (0 + 4) = AV.ptr q.x 0 (0 + 4); rw [hq]) (xv := .int .i64 k) rfl (c1Q (k := k)) rfl rfl (by first | exact Nat.le_of_ble_eq_true rfl | (simp; omega) | omega) (fun S hS => ?_)
 refine aU ?_
 (repeat (first | refine i9 ?_ | refine j2 ?_ | refine j3 rfl ?_ | refine d7 ?_ | refine f7 ?_ | refine i7 ?_))
 exact ⟨trivial, _, rfl, _, ⟨_, q, hq, rfl, rfl⟩, a0h hS⟩
theorem a7v {k im : Int} {v : Int} {st : List Int} (hi : r7 z.fr.f.Code z.fr.pc = some ⟨22, k, im⟩) (hpc : z.fr.pc < 4611686018427387904) (hst : z.fr.st = v :: st) (hv : (v == 0) = false) (hs : st.length < 100000000) :
  Tri Try.prog 142 [.ptr z.q.x 0 0, .ptr o.m 0 0] (uL p o a0 a4 a6 a7 ek ev dep live (z :: r) ps rj pj) (fun _ L' => ∃ f q, q.x = z.q.x ∧ f = { z.fr with pc := z.fr.pc + 1, st := st } ∧ L' = uL p o a0 a4 a6 a7 ek ev dep live ({ z with fr := f, q := q } :: r) ps rj pj) := by
 refine j9 mixed a2N zS [4] (fun R S hS => t6 hi hpc hS (fun oi S hS => ?_))
 refine aU ?_
 refine f5 hS rfl (List.mem_append_right _ (.head _)) (v := .int .u8 22) rfl ?_
 refine aU ?_
 refine g8 ?_
 refine aU ?_
 refine d9 (t := false) rfl (fun h => by cases h) (fun _ => ?_)
 refine aU ?_
 refine d9 (t := false) rfl (fun h => by cases h) (fun _ => ?_)
 refine aU ?_
 refine d9 (t := false) rfl (fun h => by cases h) (fun _ => ?_)
 refine aU ?_
 refine d9 (t := false) rfl (fun h => by cases h) (fun _ => ?_)
 refine aU ?_
 refine d9 (t := false) rfl (fun h => by cases h) (fun _ => ?_)
 refine aU ?_
 refine d9 (t := false) rfl (fun h => by cases h) (fun _ => ?_)
 refine aU ?_
 refine d9 (t := false) rfl (fun h => by cases h) (fun _ => ?_)
 refine aU ?_
 refine d9 (t := true) rfl (fun _ => ?_) (fun h => by cases h)
 refine aU ?_
 refine a0d (q8 (z := { z with fr := { z.fr with pc := z.fr.pc + 1 } }) hst zO) hS rfl (.refl _) (fun x S L' hL hS => ?_)
 obtain ⟨f, q, hq, ⟨rfl, rfl⟩, rfl⟩ := hL
 refine aU ?_
 refine d9 (t := false) (by show AV.bool (v == 0) = _; rw [hv]) (fun h => by cases h) (fun _ => ?_)
 refine aU ?_
 (repeat (first | refine i9 ?_ | refine j2 ?_ | refine j3 rfl ?_ | refine d7 ?_ | refine f7 ?_ | refine i7 ?_))
 exact ⟨trivial, _, rfl, _, ⟨_, q, hq, rfl, rfl⟩, a0h hS⟩
theorem a8V {k im : Int} {v : Int} {st : List Int} (hi : r7 z.fr.f.Code z.fr.pc = some ⟨32, k, im⟩) (hpc : z.fr.pc < 4611686018427387904) (hst : z.fr.st = v :: st) (hs : st.length < 100000000) :
  Tri Try.prog 142 [.ptr z.q.x 0 0, .ptr o.m 0 0] (uL p o a0 a4 a6 a7 ek ev dep live (z :: r) ps rj pj) (fun _ L' => ∃ f q, q.x = z.q.x ∧ f = { z.fr with pc := z.fr.pc + 1, st := v :: v :: st } ∧ L' = uL p o a0 a4 a6 a7 ek ev dep live ({ z with fr := f, q := q } :: r) ps rj pj) := by
 refine j9 mixed a2N zS [4] (fun R S hS => t6 hi hpc hS (fun oi S hS => ?_))
 refine aU ?_
 refine f5 hS rfl (List.mem_append_right _ (.head _)) (v := .int .u8 32) rfl ?_
 refine aU ?_
 refine g8 ?_
 refine aU ?_
 refine d9 (t := false) rfl (fun h => by cases h) (fun _ => ?_)
 refine aU ?_
 refine d9 (t := false) rfl (fun h => by cases h) (fun _ => ?_)
 refine aU ?_
 refine d9 (t := false) rfl (fun h => by cases h) (fun _ => ?_)
 refine aU ?_
 refine d9 (t := false) rfl (fun h => by cases h) (fun _ => ?_)
 refine aU ?_
 refine d9 (t := false) rfl (fun h => by cases h) (fun _ => ?_)
 refine aU ?_
 refine d9 (t := false) rfl (fun h => by cases h) (fun _ => ?_)
 refine aU ?_
 refine d9 (t := false) rfl (fun h => by cases h) (fun _ => ?_)
 refine aU ?_
 refine d9 (t := false) rfl (fun h => by cases h) (fun _ => ?_)
 refine aU ?_
 refine d9 (t := false) rfl (fun h => by cases h) (fun _ => ?_)
 refine aU ?_
 refine d9 (t := true) rfl (fun _ => ?_) (fun h => by cases h)
 refine aU ?_
 refine a0d (q8 (z := { z with fr := { z.fr with pc := z.fr.pc + 1 } }) hst zO) hS rfl (.refl _) (fun x S L' hL hS => ?_)
 obtain ⟨f, q, hq, ⟨rfl, rfl⟩, rfl⟩ := hL
 refine aU ?_
 refine a0d (a0b (z := { z with fr := { z.fr with pc := z.fr.pc + 1, st := st }, q := q }) (ex := true) (vs := [v, v]) (by show st.length < _; omega) zS) hS (by show [AV.ptr z.q.x 0 0, _] = [AV.ptr q.x 0 0, _]; rw [hq]; rfl) (.refl _) (fun x S L' hL hS => ?_)
 obtain ⟨f, q2, hq2, rfl, rfl⟩ := hL
 refine aU ?_
 (repeat (first | refine i9 ?_ | refine j2 ?_ | refine j3 rfl ?_ | refine d7 ?_ | refine f7 ?_ | refine i7 ?_))
 exact ⟨trivial, _, rfl, _, ⟨_, q2, hq2.trans hq, rfl, rfl⟩, a0h hS⟩
theorem a6J {k im : Int} {Q : List It → Prop} (hi : r7 z.fr.f.Code z.fr.pc = some ⟨5, k, im⟩) (hpc : z.fr.pc < 4611686018427387904)
  (c : Tri Try.prog 146 [.ptr z.q.x 0 0, .ptr o.m 0 0, .int .u64 0, .bool false] (uL p o a0 a4 a6 a7 ek ev dep live ({ z with fr := { z.fr with pc := z.fr.pc + 1 } } :: r) ps rj pj) (fun _ L' => Q L')) :
  Tri Try.prog 142 [.ptr z.q.x 0 0, .ptr o.m 0 0] (uL p o a0 a4 a6 a7 ek ev dep live (z :: r) ps rj pj) (fun _ L' => Q L') := by
 refine j9 mixed a2N zS [4] (fun R S hS => t6 hi hpc hS (fun oi S hS => ?_))
 refine aU ?_
 refine f5 hS rfl (List.mem_append_right _ (.head _)) (v := .int .u8 5) rfl ?_
 refine aU ?_
 refine g8 ?_
 refine aU ?_
 refine d9 (t := false) rfl (fun h => by cases h) (fun _ => ?_)
 refine aU ?_
 refine d9 (t := false) rfl (fun h => by cases h) (fun _ => ?_)
 refine aU ?_
 refine d9 (t := false) rfl (fun h => by cases h) (fun _ => ?_)
 refine aU ?_
 refine d9 (t := false) rfl (fun h => by cases h) (fun _ => ?_)
 refine aU ?_
 refine d9 (t := true) rfl (fun _ => ?_) (fun h => by cases h)
 refine aU ?_
 refine a0d c hS rfl (.refl _) (fun x S L' hL hS => ?_)
 refine aU ?_
 (repeat (first | refine i9 ?_ | refine j2 ?_ | refine j3 rfl ?_ | refine d7 ?_ | refine f7 ?_ | refine i7 ?_))
 exact ⟨trivial, _, rfl, _, hL, a0h hS⟩
theorem a6K {k im v : Int} {st : List Int} {Q : List It → Prop} (hi : r7 z.fr.f.Code z.fr.pc = some ⟨6, k, im⟩) (hpc : z.fr.pc < 4611686018427387904) (hst : z.fr.st = v :: st) (hs : st.length < 100000000)
  (c : ∀ q : FO, q.x = z.q.x → Tri Try.prog 146 [.ptr z.q.x 0 0, .ptr o.m 0 0, .int .u64 v, .bool true] (uL p o a0 a4 a6 a7 ek ev dep live ({ z with fr := { z.fr with pc := z.fr.pc + 1, st := st }, q := q } :: r) ps rj pj) (fun _ L' => Q L')) :
  Tri Try.prog 142 [.ptr z.q.x 0 0, .ptr o.m 0 0] (uL p o a0 a4 a6 a7 ek ev dep live (z :: r) ps rj pj) (fun _ L' => Q L') := by
 refine j9 mixed a2N zS [4] (fun R S hS => t6 hi hpc hS (fun oi S hS => ?_))
 refine aU ?_
 refine f5 hS rfl (List.mem_append_right _ (.head _)) (v := .int .u8 6) rfl ?_
 refine aU ?_
 refine g8 ?_
 refine aU ?_
 refine d9 (t := false) rfl (fun h => by cases h) (fun _ => ?_)
 refine aU ?_
 refine d9 (t := false) rfl (fun h => by cases h) (fun _ => ?_)
 refine aU ?_
 refine d9 (t := false) rfl (fun h => by cases h) (fun _ => ?_)
 refine aU ?_
 refine d9 (t := false) rfl (fun h => by cases h) (fun _ => ?_)
 refine aU ?_
 refine d9 (t := false) rfl (fun h => by cases h) (fun _ => ?_)
 refine aU ?_
 refine d9 (t := true) rfl (fun _ => ?_) (fun h => by cases h)
 refine aU ?_
 refine a0d (q8 (z := { z with fr := { z.fr with pc := z.fr.pc + 1 } }) hst zO) hS rfl (.refl _) (fun x S L' hL hS => ?_)
 obtain ⟨f, q, hq, ⟨rfl, rfl⟩, rfl⟩ := hL
 refine aU ?_
 refine a0d (c q hq) hS rfl (.refl _) (fun x S L' hL hS => ?_)
 refine aU ?_
 (repeat (first | refine i9 ?_ | refine j2 ?_ | refine j3 rfl ?_ | refine d7 ?_ | refine f7 ?_ | refine i7 ?_))
 exact ⟨trivial, _, rfl, _, hL, a0h hS⟩
theorem a8W {k im : Int} {tr te tv : Nat} {tape : List Int} {evs : List j7} (hi : r7 z.fr.f.Code z.fr.pc = some ⟨28, k, im⟩) (hpc : z.fr.pc < 4611686018427387904) (hs : z.fr.st.length < 100000000) (hl : evs.length < 1000000000) :
  Tri Try.prog 142 [.ptr z.q.x 0 0, .ptr o.m 0 0] (uL p o (.ptr tr 0 0) a4 a6 a7 ek ev dep live (z :: r) ps rj pj ++ [(tr, 0, [.sl false 1 (tape.map (avI .u64)), .ref te tv 0 evs.length (some 2)]), (te, tv, flat j7.av evs)])
   (fun _ L' => ∃ f q, q.x = z.q.x ∧ f = { z.fr with pc := z.fr.pc + 1, st := inV tape :: z.fr.st } ∧ L' = uL p o (.ptr tr 0 0) a4 a6 a7 ek ev dep live ({ z with fr := f, q := q } :: r) ps rj pj ++ [(tr, 0, [.sl false 1 (tape.tail.map (avI .u64)), .ref te (tv + 1) 0 (evs ++ [(⟨2, inV tape⟩ : j7)]).length (some 2)]), (te, tv + 1, flat j7.av (evs ++ [(⟨2, inV tape⟩ : j7)]))]) := by
 refine j9 mixed a2N zS [4] (fun R S hS => t6 hi hpc (by rw [List.append_assoc] at hS; exact hS) (fun oi S hS => ?_))
 refine aU ?_
 refine f5 hS rfl (List.mem_append_right _ (.head _)) (v := .int .u8 28) rfl ?_
 refine aU ?_
 refine g8 ?_
 refine aU ?_
 refine d9 (t := false) rfl (fun h => by cases h) (fun _ => ?_)
 refine aU ?_
 refine d9 (t := false) rfl (fun h => by cases h) (fun _ => ?_)
 refine aU ?_
 refine d9 (t := false) rfl (fun h => by cases h) (fun _ => ?_)
 refine aU ?_
 refine d9 (t := false) rfl (fun h => by cases h) (fun _ => ?_)
 refine aU ?_
 refine d9 (t := false) rfl (fun h => by cases h) (fun _ => ?_)
 refine aU ?_
 refine d9 (t := false) rfl (fun h => by cases h) (fun _ => ?_)
 refine aU ?_
 refine d9 (t := false) rfl (fun h => by cases h) (fun _ => ?_)
 refine aU ?_
 refine d9 (t := false) rfl (fun h => by cases h) (fun _ => ?_)
 refine aU ?_
 refine d9 (t := false) rfl (fun h => by cases h) (fun _ => ?_)
 refine aU ?_
 refine d9 (t := false) rfl (fun h => by cases h) (fun _ => ?_)
 refine aU ?_
 refine d9 (t := true) rfl (fun _ => ?_) (fun h => by cases h)
 refine aU ?_
 refine f5 hS rfl (.head _) (v := .ptr tr 0 0) rfl ?_
 refine aU ?_
 refine a0d (c0e (tape := tape) (evs := evs) (te := te) (tv := tv) hl) hS rfl (Spl.cons (Pk.skip (Pk.there Pk.here)) (Spl.cons (Pk.skip (Pk.there Pk.here)) Spl.nil)) (fun x S L' hL hS => ?_)
 obtain ⟨rfl, rfl⟩ := hL
 refine aU ?_
 refine a0d (a0b (z := { z with fr := { z.fr with pc := z.fr.pc + 1 } }) (ex := true) (vs := [inV tape]) (by show z.fr.st.length < _; omega) zS) hS rfl (Spl.last (PkC.there (PkC.there PkC.here))) (fun x S L' hL hS => ?_)
 obtain ⟨f, q, hq, rfl, rfl⟩ := hL
 refine aU ?_
 (repeat (first | refine i9 ?_ | refine j2 ?_ | refine j3 rfl ?_ | refine d7 ?_ | refine f7 ?_ | refine i7 ?_))
 refine ⟨trivial, _, rfl, _, ⟨_, q, hq, rfl, rfl⟩, ?_⟩
 rw [List.append_assoc]
 exact hS.sub (List.Sublist.append_left (.cons_cons _ (.cons_cons _ (.cons _ (.refl _)))) _)
theorem a8X {k im v : Int} {st : List Int} {tr te tv : Nat} {tape : List Int} {evs : List j7} (hi : r7 z.fr.f.Code z.fr.pc = some ⟨29, k, im⟩) (hpc : z.fr.pc < 4611686018427387904) (hst : z.fr.st = v :: st) (hs : st.length < 100000000) (hl : evs.length < 1000000000) :
  Tri Try.prog 142 [.ptr z.q.x 0 0, .ptr o.m 0 0] (uL p o (.ptr tr 0 0) a4 a6 a7 ek ev dep live (z :: r) ps rj pj ++ [(tr, 0, [.sl false 1 (tape.map (avI .u64)), .ref te tv 0 evs.length (some 2)]), (te, tv, flat j7.av evs)])
   (fun _ L' => ∃ f q, q.x = z.q.x ∧ f = { z.fr with pc := z.fr.pc + 1, st := st } ∧ L' = uL p o (.ptr tr 0 0) a4 a6 a7 ek ev dep live ({ z with fr := f, q := q } :: r) ps rj pj ++ [(tr, 0, [.sl false 1 (tape.map (avI .u64)), .ref te (tv + 1) 0 (evs ++ [(⟨1, v⟩ : j7)]).length (some 2)]), (te, tv + 1, flat j7.av (evs ++ [(⟨1, v⟩ : j7)]))]) := by
 refine j9 mixed a2N zS [4] (fun R S hS => t6 hi hpc (by rw [List.append_assoc] at hS; exact hS) (fun oi S hS => ?_))
 refine aU ?_
 refine f5 hS rfl (List.mem_append_right _ (.head _)) (v := .int .u8 29) rfl ?_
 refine aU ?_
 refine g8 ?_
 refine aU ?_
 refine d9 (t := false) rfl (fun h => by cases h) (fun _ => ?_)
 refine aU ?_
 refine d9 (t := false) rfl (fun h => by cases h) (fun _ => ?_)
 refine aU ?_
 refine d9 (t := false) rfl (fun h => by cases h) (fun _ => ?_)
 refine aU ?_
 refine d9 (t := false) rfl (fun h => by cases h) (fun _ => ?_)
 refine aU ?_
 refine d9 (t := false) rfl (fun h => by cases h) (fun _ => ?_)
 refine aU ?_
 refine d9 (t := false) rfl (fun h => by cases h) (fun _ => ?_)
 refine aU ?_
 refine d9 (t := false) rfl (fun h => by cases h) (fun _ => ?_)
 refine aU ?_
 refine d9 (t := false) rfl (fun h => by cases h) (fun _ => ?_)
 refine aU ?_
 refine d9 (t := false) rfl (fun h => by cases h) (fun _ => ?_)
 refine aU ?_
 refine d9 (t := false) rfl (fun h => by cases h) (fun _ => ?_)
 refine aU ?_
 refine d9 (t := false) rfl (fun h => by cases h) (fun _ => ?_)
 refine aU ?_
 refine d9 (t := true) rfl (fun _ => ?_) (fun h => by cases h)
 refine a1r ?_
 refine aU ?_
 refine f5 hS rfl (.head _) (v := .ptr tr 0 0) rfl ?_
 refine aU ?_
 have hm1 := hS.at (.head _)
 refine a0d (q8 (z := { z with fr := { z.fr with pc := z.fr.pc + 1 } }) hst zO) hS rfl (.refl _) (fun x S L' hL hS => ?_)
 obtain ⟨f, q, hq, ⟨rfl, rfl⟩, rfl⟩ := hL
 have hm2 := hS.at (.head _)
 refine aU ?_
 refine a0d (b4m (tape := tape) (evs := evs) (te := te) (tv := tv) hl) hS rfl (Spl.cons (Pk.skip (Pk.there Pk.here)) (Spl.cons (Pk.skip (Pk.there Pk.here)) Spl.nil)) (fun x S L' hL hS => ?_)
 subst hL
 refine aU ?_
 refine And.intro ⟨⟨rfl, fun x hx => by rw [List.mem_singleton.1 hx]; exact hm2.trans hm1.symm⟩, trivial⟩ ?_
 (repeat (first | refine i9 ?_ | refine j2 ?_ | refine j3 rfl ?_ | refine d7 ?_ | refine f7 ?_ | refine i7 ?_))
 refine ⟨trivial, _, rfl, _, ⟨_, q, hq, rfl, rfl⟩, ?_⟩
 have hS2 := hS.perm (Spl.last (PkC.there (PkC.there PkC.here)) : Spl (_ :: _ :: (uL p o (.ptr tr 0 0) a4 a6 a7 ek ev dep live _ ps rj pj ++ _)) _ _)
 rw [List.append_assoc]
 exact hS2.sub (List.Sublist.append_left (.cons_cons _ (.cons_cons _ (.cons _ (.refl _)))) _)
end
end Go.Proofs.Ytnpemocpfdgaoaa

/- Step's Set: a cell of the frame is read while another one is written. -/
namespace Go.Proofs.Ytnpemocpfdgaoaa
open Go Go.Ab
set_option maxRecDepth 20000
set_option maxHeartbeats 2000000
section
variable {a0 a4 a6 a7 : AV} {o : UO} {p : Program} {ek ev dep live : Int} {z : Row} {r : List Row} {ps ps' : List n9} {rj pj : List AV}
theorem b2A {v : Int} {st : List Int} (hst : z.fr.st = v :: st) (hl : st.length < 1000000000) :
  Tri Try.prog 144 [.ptr z.q.x 0 0] (uL p o a0 a4 a6 a7 ek ev dep live (z :: r) ps rj pj) (fun x L' => ∃ q, (q.x = z.q.x ∧ q.l = z.q.l) ∧ x = .int .u64 v ∧ L' = uL p o a0 a4 a6 a7 ek ev dep live ({ z with fr := { z.fr with st := st }, q := q } :: r) ps rj pj) := fun R S hS => by
 have h2 := (hS.perm a7r).perm (L' := [(z.q.x, 0, frC p z.fr z.q), (z.q.t, z.q.tv, flat (avI .u64) z.fr.st.reverse ++ z.q.tj)] ++ ((z.q.l, 0, flat (avI .u64) z.fr.lo) :: (uR p o a0 a4 a6 a7 ek ev dep live z r ps rj pj ++ R))) (List.Perm.cons _ (List.Perm.swap _ _ _))
 have c := b0C (a := .cptr (Program.av p).cells 0) (b := .cptr (Func.av z.fr.f).cells 0) (c := .ref z.q.l 0 0 z.fr.lo.length none) (e := .int .i64 z.fr.pc) (g := .int .i64 z.fr.nu) (x := z.q.x) (t := z.q.t) (tv := z.q.tv) (v := v) (st := st) (j := z.q.tj) hl
 unfold frC at h2
 rw [hst] at h2
 obtain ⟨r', S', h3, L', ⟨rfl, rfl⟩, h4⟩ := c _ _ h2
 exact ⟨_, S', h3, _, ⟨{ z.q with tj := .int .u64 v :: z.q.tj }, ⟨rfl, rfl⟩, rfl, rfl⟩, b0I rfl (h4.perm (List.Perm.cons _ (List.Perm.swap _ _ _)))⟩
theorem c1R {k : Nat} {v : Int} {R : List It} : Rp (uL p o a0 a4 a6 a7 ek ev dep live (z :: r) ps rj pj ++ R) (z.q.l, 0, flat (avI .u64) z.fr.lo) (z.q.l, 0, flat (avI .u64) (z.fr.lo.set k v)) (uL p o a0 a4 a6 a7 ek ev dep live (a2M k v z :: r) ps rj pj ++ R) := by
 have h := b5M (p := p) (k := k) (v := v) (R := R) (z :: r) 0 (y := z) rfl
 simp only [List.modify_zero_cons] at h
 exact Rp.there (Rp.there (Rp.there h))
theorem b0Y {k im v w : Int} {st : List Int} (hi : r7 z.fr.f.Code z.fr.pc = some ⟨3, k, im⟩) (hpc : z.fr.pc < 4611686018427387904) (hst : z.fr.st = v :: st) (hs : st.length < 100000000) (hk : r7 z.fr.lo k = some w) :
  Tri Try.prog 142 [.ptr z.q.x 0 0, .ptr o.m 0 0] (uL p o a0 a4 a6 a7 ek ev dep live (z :: r) ps rj pj) (fun _ L' => ∃ f q, q.x = z.q.x ∧ f = { z.fr with pc := z.fr.pc + 1, st := st, lo := z.fr.lo.set k.toNat v } ∧ L' = uL p o a0 a4 a6 a7 ek ev dep live ({ z with fr := f, q := q } :: r) ps rj pj) := by
 obtain ⟨h1, h2, h3⟩ := g6 hk
 refine j9 mixed a2N zS [4] (fun R S hS => t6 hi hpc hS (fun oi S hS => ?_))
 refine aU ?_
 refine f5 hS rfl (List.mem_append_right _ (.head _)) (v := .int .u8 3) rfl ?_
 refine aU ?_
 refine g8 ?_
 refine aU ?_
 refine d9 (t := false) rfl (fun h => by cases h) (fun _ => ?_)
 refine aU ?_
 refine d9 (t := false) rfl (fun h => by cases h) (fun _ => ?_)
 refine aU ?_
 refine d9 (t := true) rfl (fun _ => ?_) (fun h => by cases h)
 refine b8v ?_
 refine c3f ?_
 refine aU ?_
 refine c3f ?_
 refine aU ?_
 refine c3f ?_
 refine aU ?_
 refine c6N (o := z.q.x) (ver := 0) (q := 2) (cs := frC p { z.fr with pc := z.fr.pc + 1 } z.q) (v := .ref z.q.l 0 0 z.fr.lo.length none) rfl (hS.at a1V) rfl ?_
 refine a6o ?_
 refine aU ?_
 refine f5 hS rfl (List.mem_append_right _ (.head _)) (v := .int .i64 k) rfl ?_
 refine aU ?_
 have hx1 := hS.at (a1V (z := { z with fr := { z.fr with pc := z.fr.pc + 1 } }))
 have ho1 := hS.at (List.mem_append_right _ (.head _))
 refine a0d (b2A (z := { z with fr := { z.fr with pc := z.fr.pc + 1 } }) hst zO) hS rfl (.refl _) (fun x S L' hL hS => ?_)
 obtain ⟨q, ⟨hq, hql⟩, rfl, rfl⟩ := hL
 have hx2 := hS.at (a1V (z := { z with fr := { z.fr with pc := z.fr.pc + 1, st := st }, q := q }))
 have ho2 := hS.at (List.mem_append_right _ (.head _))
 refine aU ?_
 refine u6 rfl rfl k.toNat zO zO ?_
 refine b3h (y' := v) (l := z.fr.lo) (o := q.l) (ver := 0) hS (f4 .u64) (by show AV.ptr z.q.l 0 (0 + k.toNat * c9 none) = _; rw [← hql]) (xv := .int .u64 v) rfl (n := k.toNat) (fo := 0) (y := w) (by simp [c9]) h3 (c1R (z := { z with fr := { z.fr with pc := z.fr.pc + 1, st := st }, q := q }) (k := k.toNat) (v := v)) rfl rfl (by simp [c9]) rfl (fun S hS => ?_)
 refine aU ?_
 refine And.intro ⟨⟨⟨_, hx1, rfl⟩, ⟨_, by rw [← hq]; exact hx2, by show z7 none (frC p _ q) 2 = _; rw [← hql]; rfl⟩⟩, ⟨rfl, fun x hx => by rw [List.mem_singleton.1 hx]; exact ho2.trans ho1.symm⟩, trivial⟩ ?_
 (repeat (first | refine i9 ?_ | refine j2 ?_ | refine j3 rfl ?_ | refine d7 ?_ | refine f7 ?_ | refine i7 ?_))
 exact ⟨trivial, _, rfl, _, ⟨_, q, hq, rfl, rfl⟩, a0h hS⟩
end
end Go.Proofs.Ytnpemocpfdgaoaa

/- One step of a run, told plainly. -/
namespace Go.Proofs.Ytnpemocpfdgaoaa
open Go Go.Ab
def goA (s : AS) (z : ARow) (r : List ARow) (f : SFr) : AS := { s with rows := { z with fr := f } :: r }
def a6P (p : Program) (s : AS) (rows : List ARow) (v : Int) : Option AS := (p9 p rows (⟨v, false⟩ :: s.pans)).map fun u =>
 { s with rows := u.2.1, pans := u.2.2, panics := max s.panics ((s.pans.length : Int) + 1), ek := if u.1.isSome then 2 else s.ek, ev := u.1.getD s.ev, depth := if u.1.isSome then s.depth else max s.depth (u.2.1.length : Int), live := if u.1.isSome then s.live else s.live - 1 }
def a6L (rows : List ARow) (pt : Int) : Option (Nat × Nat × Int) := if 0 ≤ b1z pt ∧ 0 ≤ b2u pt then (rows.reverse[(b1z pt).toNat]?).bind fun y => (y.fr.lo[(b2u pt).toNat]?).map fun w => ((b1z pt).toNat, (b2u pt).toNat, w) else none
theorem a5h {rows : List ARow} {pt : Int} {c} (h : a6L rows pt = some c) : b1z pt = (c.1 : Int) ∧ b2u pt = (c.2.1 : Int) ∧ ∃ y, rows.reverse[c.1]? = some y ∧ y.fr.lo[c.2.1]? = some c.2.2 := by
 unfold a6L at h
 split at h
 ·rename_i hc
  obtain ⟨y, h1, h2⟩ := Option.bind_eq_some_iff.1 h
  obtain ⟨w, h3, rfl⟩ := Option.map_eq_some_iff.1 h2
  exact ⟨by simp only; omega, by simp only; omega, y, h1, h3⟩
 ·cases h
def w8 (p : Program) (s : AS) (z : ARow) (r : List ARow) (f : SFr) (op k im : Int) : Option AS :=
 if op = 1 then some (goA s z r { f with st := im :: f.st })
 else if op = 2 then (r7 f.lo k).map fun v => goA s z r { f with st := v :: f.st }
 else if op = 3 then (match f.st with | v :: st => (r7 f.lo k).map fun _ => goA s z r { f with st := st, lo := f.lo.set k.toNat v } | [] => none)
 else if op = 4 then some (goA s z r { f with st := a8o f.nu k :: f.st })
 else if op = 5 then (match f.st with
  | pt :: st => if pt = 0 then a6P p s ({ z with fr := { f with st := st } } :: r) 18446744073709551614 else (a6L ({ z with fr := { f with st := st } } :: r) pt).map fun c => goA s z r { f with st := c.2.2 :: st }
  | [] => none)
 else if op = 6 then (match f.st with
  | v :: pt :: st => if pt = 0 then a6P p s ({ z with fr := { f with st := st } } :: r) 18446744073709551614 else (a6L ({ z with fr := { f with st := st } } :: r) pt).map fun c => { s with rows := a8R ({ z with fr := { f with st := st } } :: r) c.1 c.2.1 v }
  | _ => none)
 else if op = 21 then some (goA s z r { f with pc := k })
 else if op = 22 then (match f.st with | v :: st => some (goA s z r (if v = 0 then { f with pc := k, st := st } else { f with st := st })) | [] => none)
 else if op = 31 then (match f.st with | _ :: st => some (goA s z r { f with st := st }) | [] => none)
 else if op = 32 then (match f.st with | v :: st => some (goA s z r { f with st := v :: v :: st }) | [] => none)
 else if op = 28 then some { s with tape := s.tape.tail, evs := s.evs ++ [⟨2, inV s.tape⟩], rows := { z with fr := { f with st := inV s.tape :: f.st } } :: r }
 else if op = 29 then (match f.st with | v :: st => some { s with evs := s.evs ++ [⟨1, v⟩], rows := { z with fr := { f with st := st } } :: r } | [] => none)
 else if op = 23 then (f.args p k).bind fun a => (a0R p k a.1 (r.length + 2)).map fun f2 => { s with rows := ⟨f2, 0, [], 0⟩ :: { z with fr := a.2 } :: r, depth := max s.depth ((r.length : Int) + 2) }
 else if op = 25 then (f.args p k).map fun a => { s with rows := { z with fr := a.2, df := ⟨k, a.1⟩ :: z.df } :: r, defers := max s.defers (s.live + 1), live := s.live + 1 }
 else if op = 24 then (a7t f).bind fun a => (a3N p { z with fr := a.2, ret := a.1 } r s.pans).map fun u =>
  { s with rows := u.A, pans := u.ps, ek := u.en.elim s.ek (·.1), ev := u.en.elim s.ev (·.2), depth := if u.push then max s.depth (u.A.length : Int) else s.depth, live := if u.push then s.live - 1 else s.live }
 else if op = 26 then (match f.st with | v :: st => a6P p s ({ z with fr := { f with st := st } } :: r) v | [] => none)
 else if op = 27 then (if z.why = 2 ∧ s.pans = [] then none else some { s with rows := { z with fr := { f with st := (a2d z.why s.pans).1.2 :: (a2d z.why s.pans).1.1 :: f.st } } :: r, pans := (a2d z.why s.pans).2 })
 else if op = 30 then (match f.st with | v :: st => some { s with rows := { z with fr := { f with st := st } } :: r, ek := 1, ev := v } | [] => none)
 else (match f.st with
  | b :: a :: st => (z9 op a b).bind fun w => if w.2 = 0 then some (goA s z r { f with st := w.1 :: st }) else a6P p s ({ z with fr := { f with st := st } } :: r) 18446744073709551615
  | _ => none)
def a1p (p : Program) (s : AS) : Option AS := match s.rows with
 | [] => none
 | z :: r => (r7 z.fr.f.Code z.fr.pc).bind fun i => w8 p s z r { z.fr with pc := z.fr.pc + 1 } i.Op i.Arg i.Imm
structure Bd (p : Program) (s : AS) : Prop where
 lo : ∀ g ∈ p.Funcs, g.Locals.length < 1000000000
 rn : s.rows.length < 9999999
 pn : s.pans.length < 9999999
 dep : 0 ≤ s.depth ∧ s.depth < 1000000000
 lv : 0 ≤ s.live ∧ s.live < 100000000
 row : ∀ z ∈ s.rows, (z.df.length : Int) ≤ s.live ∧ z.fr.pc < 2305843009213693952 ∧ z.fr.st.length < 100000000
 ev : s.evs.length < 1000000000
end Go.Proofs.Ytnpemocpfdgaoaa

/- sem.frame's Step as one contract. -/
namespace Go.Ab
theorem Tri.beside {P : Program} {f : FuncId} {args : List AV} {L X : List It} {Q : AV → List It → Prop} (c : Tri P f args L Q) : Tri P f args (L ++ X) (fun v L' => ∃ L0, Q v L0 ∧ L' = L0 ++ X) := fun R S hS => by
 rw [List.append_assoc] at hS
 obtain ⟨r, S', h1, L', h2, h3⟩ := c _ _ hS
 exact ⟨r, S', h1, _, ⟨L', h2, rfl⟩, by rw [List.append_assoc]; exact h3⟩
end Go.Ab
namespace Go.Proofs.Ytnpemocpfdgaoaa
open Go Go.Ab
set_option maxRecDepth 20000
set_option maxHeartbeats 2000000
structure TO where
 tr : Nat
 te : Nat
 tv : Nat
def trL (t : TO) (s : AS) : List It := [(t.tr, 0, [.sl false 1 (s.tape.map (avI .u64)), .ref t.te t.tv 0 s.evs.length (some 2)]), (t.te, t.tv, flat j7.av s.evs)]
abbrev sL (p : Program) (o : UO) (t : TO) (s : AS) (rows : List Row) (rj pj : List AV) : List It :=
 uL p o (.ptr t.tr 0 0) (.int .i64 s.steps) (.int .i64 s.defers) (.int .i64 s.panics) s.ek s.ev s.depth s.live rows s.pans rj pj
def mS (p : Program) (o : UO) (t : TO) (s : AS) (rows : List Row) (rj pj : List AV) : List It := sL p o t s rows rj pj ++ trL t s
def b8e (p : Program) (m : Nat) (s : AS) (L : List It) : Prop := ∃ o t rows rj pj, o.m = m ∧ a0p rows = s.rows ∧ L = mS p o t s rows rj pj
section
variable {p : Program} {o : UO} {t : TO} {s s' : AS} {z : Row} {r : List Row} {rj pj : List AV}
theorem lift_tri {g : FuncId} {ag : List AV} {rows : List Row} {Q : List It → Prop} (c : Tri Try.prog g ag (sL p o t s rows rj pj) (fun _ L' => Q L')) (ht : s'.tape = s.tape) (he : s'.evs = s.evs)
  (k : ∀ L', Q L' → ∃ o' rows' rj' pj', o'.m = o.m ∧ a0p rows' = s'.rows ∧ L' = sL p o' t s' rows' rj' pj') : Tri Try.prog g ag (mS p o t s rows rj pj) (fun _ L' => b8e p o.m s' L') :=
 (Tri.beside c).mono (fun v L' ⟨L0, h1, h2⟩ => by
  obtain ⟨o', rows', rj', pj', h3, h4, rfl⟩ := k _ h1
  refine ⟨o', t, rows', rj', pj', h3, h4, ?_⟩
  rw [h2]; unfold mS trL; rw [ht, he])
theorem a1W {g : FuncId} {ag : List AV} {F : SFr} (c : Tri Try.prog g ag (sL p o t s (z :: r) rj pj) (fun _ L' => ∃ f q, q.x = z.q.x ∧ f = F ∧ L' = sL p o t s ({ z with fr := f, q := q } :: r) rj pj)) :
  Tri Try.prog g ag (mS p o t s (z :: r) rj pj) (fun _ L' => b8e p o.m (goA s z.toARow (a0p r) F) L') :=
 lift_tri c rfl rfl (fun L' ⟨f, q, h1, h2, h3⟩ => ⟨o, { z with fr := f, q := q } :: r, rj, pj, rfl, by rw [h2]; rfl, h3⟩)
theorem a5M {g : FuncId} {ag : List AV} {rows : List Row} {rs : List ARow} {v : Int} (hv : a6P p s rs v = some s')
  (c : ∀ {en : Option Int} {A' : List ARow} {ps' : List n9}, p9 p rs (⟨v, false⟩ :: s.pans) = some (en, A', ps') → Tri Try.prog g ag (sL p o t s rows rj pj)
   (fun _ L' => ∃ rv rows' rj' pj', a0p rows' = A' ∧ L' = uL p { o with rv := rv, pv := o.pv + 1 } (.ptr t.tr 0 0) (.int .i64 s.steps) (.int .i64 s.defers) (.int .i64 (max s.panics ((s.pans.length : Int) + 1))) (if en.isSome then 2 else s.ek) (en.getD s.ev) (if en.isSome then s.depth else max s.depth (A'.length : Int)) (if en.isSome then s.live else s.live - 1) rows' ps' rj' pj')) :
  Tri Try.prog g ag (mS p o t s rows rj pj) (fun _ L' => b8e p o.m s' L') := by
 unfold a6P at hv
 obtain ⟨⟨en, A', ps'⟩, h1, rfl⟩ := Option.map_eq_some_iff.1 hv
 exact lift_tri (c h1) rfl rfl (fun L' ⟨rv, rows', rj', pj', h2, h3⟩ => ⟨{ o with rv := rv, pv := o.pv + 1 }, rows', rj', pj', rfl, h2, h3⟩)
theorem b2B (hb : Bd p s) (hA : a0p (z :: r) = s.rows) (hst : a1p p s = some s') :
  Tri Try.prog 142 [.ptr z.q.x 0 0, .ptr o.m 0 0] (mS p o t s (z :: r) rj pj) (fun _ L' => b8e p o.m s' L') := by
 have hA2 : s.rows = z.toARow :: a0p r := hA.symm
 unfold a1p at hst
 rw [hA2] at hst
 obtain ⟨⟨op, k, im⟩, hi, hst⟩ := Option.bind_eq_some_iff.1 hst
 have hrl : (a0p r).length = r.length := by simp [a0p]
 have hrn : r.length < 9999998 := by have := hb.rn; rw [hA2] at this; simp [hrl] at this; omega
 have hrow : ∀ y ∈ z :: r, (y.df.length : Int) ≤ s.live ∧ y.fr.pc < 2305843009213693952 ∧ y.fr.st.length < 100000000 := fun y hy => hb.row y.toARow (by rw [← hA]; exact List.mem_map_of_mem hy)
 obtain ⟨hz1, hz2, hz3⟩ := hrow z (.head _)
 have hlv : ∀ y ∈ z :: r, (y.df.length : Int) ≤ s.live := fun y hy => (hrow y hy).1
 have hpc : z.fr.pc < 4611686018427387904 := by omega
 have hlv1 : ∀ (F : SFr), ∀ y ∈ { z with fr := F } :: r, (y.df.length : Int) ≤ s.live := fun F y hy => by
  rcases List.mem_cons.1 hy with rfl | hy
  ·exact hz1
  ·exact hlv y (.tail _ hy)
 have hpn := hb.pn
 have hlv2 := hb.lv
 have hdep := hb.dep
 unfold w8 at hst
 dsimp only at hi hst
 by_cases h : op = 1
 ·rw [if_pos h] at hst; subst h; cases hst
  exact a1W (b0V hi hpc zO)
 rw [if_neg h] at hst; have n1 := h; clear h
 by_cases h : op = 2
 ·rw [if_pos h] at hst; subst h
  obtain ⟨v, hv, rfl⟩ := Option.map_eq_some_iff.1 hst
  exact a1W (b0W hi hpc zO hv)
 rw [if_neg h] at hst; have n2 := h; clear h
 by_cases h : op = 3
 ·rw [if_pos h] at hst; subst h
  split at hst
  ·rename_i v st e
   obtain ⟨w, hw, rfl⟩ := Option.map_eq_some_iff.1 hst
   exact a1W (b0Y hi hpc e (by rw [e] at hz3; simp at hz3; omega) hw)
  ·cases hst
 rw [if_neg h] at hst; have n3 := h; clear h
 by_cases h : op = 4
 ·rw [if_pos h] at hst; subst h; cases hst
  exact a1W (b0X hi hpc zO)
 rw [if_neg h] at hst; have n4 := h; clear h
 by_cases h : op = 5
 ·rw [if_pos h] at hst; subst h
  split at hst
  ·rename_i pt st e
   have hs : st.length < 100000000 := by rw [e] at hz3; simp at hz3; omega
   split at hst
   ·rename_i h0
    rw [h0] at e
    exact a5M hst (fun h1 => a6J hi hpc (a8q (z := { z with fr := { z.fr with pc := z.fr.pc + 1 } }) e zO h1 zO hpn hb.lo hdep (hlv1 _) hlv2.2))
   ·rename_i h0
    obtain ⟨c, hc, rfl⟩ := Option.map_eq_some_iff.1 hst
    obtain ⟨c1, c2, y, c3, c4⟩ := a5h hc
    exact a1W (a6J hi hpc (b2x (z := { z with fr := { z.fr with pc := z.fr.pc + 1 } }) e hs h0 c1 c2 c3 c4))
  ·cases hst
 rw [if_neg h] at hst; have n5 := h; clear h
 by_cases h : op = 6
 ·rw [if_pos h] at hst; subst h
  split at hst
  ·rename_i v pt st e
   have hs : st.length < 99999999 := by rw [e] at hz3; simp at hz3; omega
   split at hst
   ·rename_i h0
    rw [h0] at e
    exact a5M hst (fun h1 => a6K hi hpc e zE (fun q hq => by
     have c := a8q (z := { z with fr := { z.fr with pc := z.fr.pc + 1, st := 0 :: st }, q := q }) (v := v) (b := true) (o := o) (r := r) (rj := rj) (pj := pj) (a0 := .ptr t.tr 0 0) (a4 := .int .i64 s.steps) (a6 := .int .i64 s.defers) (pmx := s.panics) (ek := s.ek) (ev := s.ev) (dep := s.depth) (live := s.live) (p := p) rfl zO h1 zO hpn hb.lo hdep (fun y hy => by
      rcases List.mem_cons.1 hy with rfl | hy
      ·exact hz1
      ·exact hlv y (.tail _ hy)) hlv2.2
     rw [show ({ z with fr := { z.fr with pc := z.fr.pc + 1, st := 0 :: st }, q := q } : Row).q.x = z.q.x from hq] at c
     exact c))
   ·rename_i h0
    obtain ⟨c, hc, rfl⟩ := Option.map_eq_some_iff.1 hst
    obtain ⟨c1, c2, y, c3, c4⟩ := a5h hc
    refine lift_tri (Q := fun L' => ∃ rows', a0p rows' = a8R ({ z.toARow with fr := { z.fr with pc := z.fr.pc + 1, st := st } } :: a0p r) c.1 c.2.1 v ∧ L' = sL p o t s rows' rj pj) (a6K hi hpc e zE (fun q hq => ?_)) rfl rfl (fun L' ⟨rows', h1, h2⟩ => ⟨o, rows', rj, pj, rfl, h1, h2⟩)
    have c := b2z (z := { z with fr := { z.fr with pc := z.fr.pc + 1, st := pt :: st }, q := q }) (v := v) (o := o) (r := r) (rj := rj) (pj := pj) (a0 := .ptr t.tr 0 0) (a4 := .int .i64 s.steps) (a6 := .int .i64 s.defers) (a7 := .int .i64 s.panics) (ek := s.ek) (ev := s.ev) (dep := s.depth) (live := s.live) (p := p) (ps := s.pans) rfl zO h0 c1 c2 c3 c4
    rw [show ({ z with fr := { z.fr with pc := z.fr.pc + 1, st := pt :: st }, q := q } : Row).q.x = z.q.x from hq] at c
    exact c
  ·cases hst
 rw [if_neg h] at hst; have n6 := h; clear h
 by_cases h : op = 21
 ·rw [if_pos h] at hst; subst h; cases hst
  exact a1W (a8U hi hpc)
 rw [if_neg h] at hst; have n21 := h; clear h
 by_cases h : op = 22
 ·rw [if_pos h] at hst; subst h
  split at hst
  ·rename_i v st e
   have hs : st.length < 100000000 := by rw [e] at hz3; simp at hz3; omega
   cases hst
   by_cases h0 : v = 0
   ·subst h0
    rw [if_pos rfl]
    exact a1W (a7u hi hpc e hs)
   ·rw [if_neg h0]
    exact a1W (a7v hi hpc e (by simpa using h0) hs)
  ·cases hst
 rw [if_neg h] at hst; have n22 := h; clear h
 by_cases h : op = 31
 ·rw [if_pos h] at hst; subst h
  split at hst
  ·rename_i v st e
   cases hst
   exact a1W (a8T hi hpc e (by rw [e] at hz3; simp at hz3; omega))
  ·cases hst
 rw [if_neg h] at hst; have n31 := h; clear h
 by_cases h : op = 32
 ·rw [if_pos h] at hst; subst h
  split at hst
  ·rename_i v st e
   cases hst
   exact a1W (a8V hi hpc e (by rw [e] at hz3; simp at hz3; omega))
  ·cases hst
 rw [if_neg h] at hst; have n32 := h; clear h
 by_cases h : op = 28
 ·rw [if_pos h] at hst; subst h; cases hst
  exact (a8W (tr := t.tr) (te := t.te) (tv := t.tv) (tape := s.tape) (evs := s.evs) hi hpc zO hb.ev).mono (fun v L' ⟨f, q, h1, h2, h3⟩ => ⟨o, { t with tv := t.tv + 1 }, { z with fr := f, q := q } :: r, rj, pj, rfl, by rw [h2]; rfl, h3⟩)
 rw [if_neg h] at hst; have n28 := h; clear h
 by_cases h : op = 29
 ·rw [if_pos h] at hst; subst h
  split at hst
  ·rename_i v st e
   cases hst
   exact (a8X (tr := t.tr) (te := t.te) (tv := t.tv) (tape := s.tape) (evs := s.evs) hi hpc e (by rw [e] at hz3; simp at hz3; omega) hb.ev).mono (fun v L' ⟨f, q, h1, h2, h3⟩ => ⟨o, { t with tv := t.tv + 1 }, { z with fr := f, q := q } :: r, rj, pj, rfl, by rw [h2]; rfl, h3⟩)
  ·cases hst
 rw [if_neg h] at hst; have n29 := h; clear h
 by_cases h : op = 23
 ·rw [if_pos h] at hst; subst h
  obtain ⟨⟨ag, f1⟩, h1, h2⟩ := Option.bind_eq_some_iff.1 hst
  obtain ⟨f2, h3, rfl⟩ := Option.map_eq_some_iff.1 h2
  rw [hrl] at h3
  refine lift_tri (a0c hi hpc (by simp [a2O]) (b0M (z := { z with fr := { z.fr with pc := z.fr.pc + 1 } }) h1 (by show z.fr.st.length < _; omega) h3 zO hb.lo hdep)) rfl rfl (fun L' ⟨rows', h4, h5⟩ => ⟨{ o with rv := o.rv + 1 }, rows', [], pj, rfl, h4, ?_⟩)
  rw [h5]; simp only [hrl]
 rw [if_neg h] at hst; have n23 := h; clear h
 by_cases h : op = 25
 ·rw [if_pos h] at hst; subst h
  obtain ⟨⟨ag, f1⟩, h1, rfl⟩ := Option.map_eq_some_iff.1 hst
  exact lift_tri (a0c hi hpc (by simp [a2O]) (b0Q (z := { z with fr := { z.fr with pc := z.fr.pc + 1 } }) h1 (by show z.fr.st.length < _; omega) zO (by show z.df.length < _; omega) hlv2)) rfl rfl (fun L' ⟨rows', h4, h5⟩ => ⟨o, rows', rj, pj, rfl, h4, h5⟩)
 rw [if_neg h] at hst; have n25 := h; clear h
 by_cases h : op = 24
 ·rw [if_pos h] at hst; subst h
  obtain ⟨⟨v, f1⟩, h1, h2⟩ := Option.bind_eq_some_iff.1 hst
  obtain ⟨u, h3, rfl⟩ := Option.map_eq_some_iff.1 h2
  refine lift_tri (a0c hi hpc (by simp [a2O]) (b0P (z := { z with fr := { z.fr with pc := z.fr.pc + 1 } }) h1 (by show z.fr.st.length < _; omega) h3 zO zO hb.lo hdep (fun y hy => ?_) hlv2.2)) rfl rfl (fun L' ⟨rv, rows', rj', pj', h4, h5⟩ => ⟨{ o with rv := rv }, rows', rj', pj', rfl, h4, h5⟩)
  rcases List.mem_cons.1 hy with rfl | hy
  ·exact ⟨hz1, by show z.fr.pc + 1 < _; omega, by show z.fr.st.length < _; omega⟩
  ·obtain ⟨y1, y2, y3⟩ := hrow y (.tail _ hy)
   exact ⟨y1, by omega, by omega⟩
 rw [if_neg h] at hst; have n24 := h; clear h
 by_cases h : op = 26
 ·rw [if_pos h] at hst; subst h
  split at hst
  ·rename_i v st e
   exact a5M hst (fun h1 => a0c hi hpc (by simp [a2O]) (b0N (z := { z with fr := { z.fr with pc := z.fr.pc + 1 } }) e (by rw [e] at hz3; simp at hz3; omega) h1 zO hpn hb.lo hdep (hlv1 _) hlv2.2))
  ·cases hst
 rw [if_neg h] at hst; have n26 := h; clear h
 by_cases h : op = 27
 ·rw [if_pos h] at hst; subst h
  split at hst
  ·cases hst
  ·rename_i h0
   cases hst
   exact lift_tri (a0c hi hpc (by simp [a2O]) (b0R (z := { z with fr := { z.fr with pc := z.fr.pc + 1 } }) (by show z.fr.st.length < _; omega) zO (fun h1 h2 => h0 ⟨h1, h2⟩) zO)) rfl rfl
    (fun L' ⟨f, q, h1, h2, h3⟩ => ⟨o, { z with fr := f, q := q } :: r, rj, pj, rfl, by rw [h2]; rfl, h3⟩)
 rw [if_neg h] at hst; have n27 := h; clear h
 by_cases h : op = 30
 ·rw [if_pos h] at hst; subst h
  split at hst
  ·rename_i v st e
   cases hst
   exact lift_tri (a0c hi hpc (by simp [a2O]) (b0O (z := { z with fr := { z.fr with pc := z.fr.pc + 1 } }) e (by rw [e] at hz3; simp at hz3; omega))) rfl rfl
    (fun L' ⟨f, q, h1, h2, h3⟩ => ⟨o, { z with fr := f, q := q } :: r, rj, pj, rfl, by rw [h2]; rfl, h3⟩)
  ·cases hst
 rw [if_neg h] at hst; have n30 := h; clear h
 have hns : a2O op := by simp [a2O, n1, n2, n3, n4, n5, n6, n21, n22, n31, n32, n28, n29]
 have hnc : a8r op := by simp [a8r, n23, n24, n25, n26, n27, n30]
 split at hst
 ·rename_i b a st e
  have hs : st.length < 99999999 := by rw [e] at hz3; simp at hz3; omega
  obtain ⟨⟨v, er⟩, hw, hst⟩ := Option.bind_eq_some_iff.1 hst
  dsimp only at hst
  split at hst
  ·rename_i h0
   cases hst
   rw [h0] at hw
   exact a1W (a0c hi hpc hns (b0S (z := { z with fr := { z.fr with pc := z.fr.pc + 1 } }) hnc e zO hw))
  ·rename_i h0
   exact a5M hst (fun h1 => a0c hi hpc hns (b0T (z := { z with fr := { z.fr with pc := z.fr.pc + 1 } }) hnc e zO hw h0 h1 zO hpn hb.lo hdep (hlv1 _) hlv2.2))
 ·cases hst
end
end Go.Proofs.Ytnpemocpfdgaoaa

