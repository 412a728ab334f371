/- build: a node, instruction by instruction (printed by mkO.py). -/
import Derived.Test.YtnpemocpfdgaoaaBaW3
import Derived.Test.YtnpemocpfdgaoaaBdW5
import Derived.Test.YtnpemocpfdgaoaaRfW4
import Derived.Test.YtnpemocpfdgaoaaWlK11
set_option linter.unusedVariables false
set_option linter.unusedSimpArgs false
namespace Go.Proofs.Ytnpemocpfdgaoaa
open Go Go.Ab
set_option maxRecDepth 20000
set_option maxHeartbeats 2000000
section
variable {p : Program} {f : Func} {b cl : Nat} {cs : List AV} {cell s : List Int} {at_ : Int} {i : Instr}
theorem c7Y {c k : Int} (B : NB p f cl cs cell s at_) (hi : j9 f.Code at_ = some i) (hop : i.Op = 2) (hcell : j9 cell i.Arg = some c) (hk1 : j9 f.Locals i.Arg = some k) (hk2 : 0 <= k /\ k < 256) :
  Tri Try.prog 54 [.ptr b 0 0, .int .i64 at_, .sl false 1 (s.map (avI .u8))] [(b, 0, cs), (cl, 0, flat (avI .i64) cell)] (fun x L' => x = .agg (nX .nils { ((t5 c i.Arg (i9 f s.length k) false) : b8) with Next := o9 f at_ i }) /\ L' = [(b, 0, cs), (cl, 0, flat (avI .i64) cell)]) := by
 have hs0 := B.hs
 refine j7 mixed a1D zS [3, 5, 6, 7, 8, 11, 12] (fun R S hS => j4 B.hf B.hl zO hi hS (fun o3 o5 o6 o7 o8 o11 S hS => ?_))
 rw [hop]
 (repeat refine j6 rfl rfl ?_)
 refine x7 rfl rfl ?_
 refine s4 ?_
 refine aU ?_
 refine b7 hS rfl (.tail _ (.tail _ (.tail _ (.tail _ (.tail _ (.head _)))))) (v := .ptr b 0 0) rfl ?_
 refine aU ?_
 refine b7 hS rfl (.tail _ (.tail _ (.head _))) (v := .int .i64 i.Arg) rfl ?_
 refine aU ?_
 refine b7 hS rfl (.tail _ (.tail _ (.tail _ (.tail _ (.tail _ (.head _)))))) (v := .ptr b 0 0) rfl ?_
 refine aU ?_
 refine b7 hS rfl (.tail _ (.head _)) (v := .int .i64 s.length) rfl ?_
 refine aU ?_
 refine b7 hS rfl (.tail _ (.tail _ (.tail _ (.tail _ (.tail _ (.head _)))))) (v := .ptr b 0 0) rfl ?_
 refine aU ?_
 refine b7 hS rfl (.tail _ (.tail _ (.tail _ (.tail _ (.tail _ (.tail _ (.head _))))))) (v := .cptr (Func.cells f) 0) B.hf ?_
 refine aU ?_
 refine b7 hS rfl (.tail _ (.tail _ (.head _))) (v := .int .i64 i.Arg) rfl ?_
 refine aU ?_
 refine g8 (esh := none) (f := avI .u8) (ys := f.Locals) (y := k) rfl rfl hk1 ?_
 refine aU ?_
 refine a7f (w7 (b := b) (d := s.length) (k := k) B.hf B.hl zO hk2) hS rfl (Spl.cons (Pk.there (Pk.there (Pk.there (Pk.there (Pk.there (Pk.there Pk.here)))))) Spl.nil) ?_
 refine aU ?_
 have hm1 := hS.at (.tail _ (.tail _ (.tail _ (.tail _ (.tail _ (.head _))))))
 have hm2 := hS.at (.tail _ (.tail _ (.head _)))
 refine a2S (a3N (cell := cell) (c := c) (i := i.Arg) (place := i9 f s.length k) (w := false) B.hc hcell) hS rfl (Spl.cons (Pk.there (Pk.there (Pk.there (Pk.there (Pk.there (Pk.there Pk.here)))))) (Spl.cons (Pk.there (Pk.there (Pk.there (Pk.there (Pk.there (Pk.there Pk.here)))))) Spl.nil)) (fun x S L' hL hS => ?_)
 obtain ⟨rfl, rfl⟩ := hL
 have hS2 : Ab.Sep S (nLs b cl o3 o5 o6 o7 o8 o11 cs cell s i .nils zN R) := hS.perm (Spl.cons (Pk.there (Pk.there Pk.here)) (Spl.cons (Pk.there (Pk.there Pk.here)) (Spl.cons (Pk.there (Pk.there Pk.here)) (Spl.cons (Pk.there (Pk.there Pk.here)) (Spl.cons (Pk.there (Pk.there Pk.here)) (Spl.cons (Pk.there (Pk.there Pk.here)) (Spl.cons Pk.here (Spl.cons Pk.here (.refl _)))))))))
 clear hS
 have hS := hS2
 clear hS2
 have hm3 := hS.at (.tail _ (.tail _ (.tail _ (.tail _ (.tail _ (.head _))))))
 have hm4 := hS.at (.tail _ (.tail _ (.head _)))
 refine aU ?_
 have hlz : a6r (t5 c i.Arg (i9 f s.length k) false) = .agg (nX .nils (t5 c i.Arg (i9 f s.length k) false)) := rfl
 refine E_stS hS rfl (xv := .agg (nX .nils (t5 c i.Arg (i9 f s.length k) false))) hlz Rp.here rfl rfl zqV (fun S hS => ?_)
 refine a7 ?_
 refine And.intro (by simp [u7, a1u, r5, y8]) ?_
 refine aE ?_
 refine s9 (F := nF o3 o5 o6 o7 o8 o11 at_ f s) wF ?_
 refine g7 (a := .nils) (n := (t5 c i.Arg (i9 f s.length k) false)) ⟨rfl, rfl⟩ B.hf B.hn B.hat hS (fun S hS fr' hfr => ?_)
 exact ⟨trivial, _, f6 hfr (hS.at (.head _)) rfl, _, ⟨rfl, rfl⟩, hS.sub (List.sublist_cons_self _ _)⟩
theorem c7Z {c t1 : Int} (B : NB p f cl cs cell s at_) (hi : j9 f.Code at_ = some i) (hop : i.Op = 3) (hcell : j9 cell i.Arg = some c) (h1 : a1C f s 1 = some t1) :
  Tri Try.prog 54 [.ptr b 0 0, .int .i64 at_, .sl false 1 (s.map (avI .u8))] [(b, 0, cs), (cl, 0, flat (avI .i64) cell)] (fun x L' => x = .agg (nX .nils { ((t5 c i.Arg t1 true) : b8) with Next := o9 f at_ i }) /\ L' = [(b, 0, cs), (cl, 0, flat (avI .i64) cell)]) := by
 have hs0 := B.hs
 refine j7 mixed a1D zS [3, 5, 6, 7, 8, 11, 12] (fun R S hS => j4 B.hf B.hl zO hi hS (fun o3 o5 o6 o7 o8 o11 S hS => ?_))
 rw [hop]
 (repeat refine j6 rfl rfl ?_)
 refine x7 rfl rfl ?_
 refine s4 ?_
 refine aU ?_
 refine b7 hS rfl (.tail _ (.tail _ (.tail _ (.tail _ (.tail _ (.head _)))))) (v := .ptr b 0 0) rfl ?_
 refine aU ?_
 refine b7 hS rfl (.tail _ (.tail _ (.head _))) (v := .int .i64 i.Arg) rfl ?_
 refine aU ?_
 refine p9 (q6 (b := b) (o3 := o3) (o5 := o5) (o8 := o8) B h1) hS rfl x5 rfl (Spl.cons (Pk.there (Pk.there (Pk.there (Pk.there (Pk.there Pk.here))))) (Spl.cons (Pk.there Pk.here) (Spl.cons (Pk.there (Pk.there (Pk.there Pk.here))) (Spl.cons (Pk.there (Pk.there (Pk.there Pk.here))) Spl.nil)))) ?_
 refine aU ?_
 have hm1 := hS.at (.tail _ (.tail _ (.tail _ (.tail _ (.tail _ (.head _))))))
 have hm2 := hS.at (.tail _ (.tail _ (.head _)))
 refine a2S (a3N (cell := cell) (c := c) (i := i.Arg) (place := t1) (w := true) B.hc hcell) hS rfl (Spl.cons (Pk.there (Pk.there (Pk.there (Pk.there (Pk.there (Pk.there Pk.here)))))) (Spl.cons (Pk.there (Pk.there (Pk.there (Pk.there (Pk.there (Pk.there Pk.here)))))) Spl.nil)) (fun x S L' hL hS => ?_)
 obtain ⟨rfl, rfl⟩ := hL
 have hS2 : Ab.Sep S (nLs b cl o3 o5 o6 o7 o8 o11 cs cell s i .nils zN R) := hS.perm (Spl.cons (Pk.there (Pk.there Pk.here)) (Spl.cons (Pk.there (Pk.there Pk.here)) (Spl.cons (Pk.there (Pk.there Pk.here)) (Spl.cons (Pk.there (Pk.there Pk.here)) (Spl.cons (Pk.there (Pk.there Pk.here)) (Spl.cons (Pk.there (Pk.there Pk.here)) (Spl.cons Pk.here (Spl.cons Pk.here (.refl _)))))))))
 clear hS
 have hS := hS2
 clear hS2
 have hm3 := hS.at (.tail _ (.tail _ (.tail _ (.tail _ (.tail _ (.head _))))))
 have hm4 := hS.at (.tail _ (.tail _ (.head _)))
 refine aU ?_
 have hlz : a6r (t5 c i.Arg t1 true) = .agg (nX .nils (t5 c i.Arg t1 true)) := rfl
 refine E_stS hS rfl (xv := .agg (nX .nils (t5 c i.Arg t1 true))) hlz Rp.here rfl rfl zqV (fun S hS => ?_)
 refine a7 ?_
 refine And.intro (by simp [u7, a1u, r5, y8]) ?_
 refine aE ?_
 refine s9 (F := nF o3 o5 o6 o7 o8 o11 at_ f s) wF ?_
 refine g7 (a := .nils) (n := (t5 c i.Arg t1 true)) ⟨rfl, rfl⟩ B.hf B.hn B.hat hS (fun S hS fr' hfr => ?_)
 exact ⟨trivial, _, f6 hfr (hS.at (.head _)) rfl, _, ⟨rfl, rfl⟩, hS.sub (List.sublist_cons_self _ _)⟩
end
end Go.Proofs.Ytnpemocpfdgaoaa

/- build: a node, instruction by instruction (printed by mkO.py). -/
namespace Go.Proofs.Ytnpemocpfdgaoaa
open Go Go.Ab
set_option maxRecDepth 20000
set_option maxHeartbeats 2000000
section
variable {p : Program} {f : Func} {b cl : Nat} {cs : List AV} {cell s : List Int} {at_ : Int} {i : Instr}
theorem c4d (B : NB p f cl cs cell s at_) (hi : j9 f.Code at_ = some i) (hop : i.Op = 21) :
  Tri Try.prog 54 [.ptr b 0 0, .int .i64 at_, .sl false 1 (s.map (avI .u8))] [(b, 0, cs), (cl, 0, flat (avI .i64) cell)] (fun x L' => x = .agg (nX .nils { (⟨10, 0, 0, 0, 0, 0, 0, 0, 0, [], 0, 0⟩ : b8) with Next := o9 f at_ i }) /\ L' = [(b, 0, cs), (cl, 0, flat (avI .i64) cell)]) := by
 have hs0 := B.hs
 refine j7 mixed a1D zS [3, 5, 6, 7, 8, 11, 12] (fun R S hS => j4 B.hf B.hl zO hi hS (fun o3 o5 o6 o7 o8 o11 S hS => ?_))
 rw [hop]
 (repeat refine j6 rfl rfl ?_)
 refine b6N rfl rfl ?_
 refine aU ?_
 refine E_stS hS rfl (xv := .agg (nX (.nils) ⟨10, 0, 0, 0, 0, 0, 0, 0, 0, [], 0, 0⟩)) rfl Rp.here rfl rfl zqV (fun S hS => ?_)
 refine aU ?_
 refine aE ?_
 refine s9 (F := nF o3 o5 o6 o7 o8 o11 at_ f s) wF ?_
 refine g7 (a := .nils) (n := ⟨10, 0, 0, 0, 0, 0, 0, 0, 0, [], 0, 0⟩) ⟨rfl, rfl⟩ B.hf B.hn B.hat hS (fun S hS fr' hfr => ?_)
 exact ⟨trivial, _, f6 hfr (hS.at (.head _)) rfl, _, ⟨rfl, rfl⟩, hS.sub (List.sublist_cons_self _ _)⟩
theorem c4e (B : NB p f cl cs cell s at_) (hi : j9 f.Code at_ = some i) (hop : i.Op = 31) :
  Tri Try.prog 54 [.ptr b 0 0, .int .i64 at_, .sl false 1 (s.map (avI .u8))] [(b, 0, cs), (cl, 0, flat (avI .i64) cell)] (fun x L' => x = .agg (nX .nils { (⟨10, 0, 0, 0, 0, 0, 0, 0, 0, [], 0, 0⟩ : b8) with Next := o9 f at_ i }) /\ L' = [(b, 0, cs), (cl, 0, flat (avI .i64) cell)]) := by
 have hs0 := B.hs
 refine j7 mixed a1D zS [3, 5, 6, 7, 8, 11, 12] (fun R S hS => j4 B.hf B.hl zO hi hS (fun o3 o5 o6 o7 o8 o11 S hS => ?_))
 rw [hop]
 (repeat refine j6 rfl rfl ?_)
 refine a0q rfl zD zD rfl rfl (fun _ => ?_) (fun h => by cases h)
 refine aU ?_
 refine E_stS hS rfl (xv := .agg (nX (.nils) ⟨10, 0, 0, 0, 0, 0, 0, 0, 0, [], 0, 0⟩)) rfl Rp.here rfl rfl zqV (fun S hS => ?_)
 refine aU ?_
 refine aE ?_
 refine s9 (F := nF o3 o5 o6 o7 o8 o11 at_ f s) wF ?_
 refine g7 (a := .nils) (n := ⟨10, 0, 0, 0, 0, 0, 0, 0, 0, [], 0, 0⟩) ⟨rfl, rfl⟩ B.hf B.hn B.hat hS (fun S hS fr' hfr => ?_)
 exact ⟨trivial, _, f6 hfr (hS.at (.head _)) rfl, _, ⟨rfl, rfl⟩, hS.sub (List.sublist_cons_self _ _)⟩
theorem c1y {t1 : Int} (B : NB p f cl cs cell s at_) (hi : j9 f.Code at_ = some i) (hop : i.Op = 24) (hR : f.Result = true) (h1 : a1C f s 1 = some t1) :
  Tri Try.prog 54 [.ptr b 0 0, .int .i64 at_, .sl false 1 (s.map (avI .u8))] [(b, 0, cs), (cl, 0, flat (avI .i64) cell)] (fun x L' => x = .agg (nX .nils { (⟨12, 0, 0, 0, t1, 0, 0, 0, 0, [], 0, 0⟩ : b8) with Next := o9 f at_ i }) /\ L' = [(b, 0, cs), (cl, 0, flat (avI .i64) cell)]) := by
 have hs0 := B.hs
 refine j7 mixed a1D zS [3, 5, 6, 7, 8, 11, 12] (fun R S hS => j4 B.hf B.hl zO hi hS (fun o3 o5 o6 o7 o8 o11 S hS => ?_))
 rw [hop]
 (repeat refine j6 rfl rfl ?_)
 refine a0q rfl zD zD rfl rfl (fun h => by cases h) (fun _ => ?_)
 (repeat refine j6 rfl rfl ?_)
 refine x7 rfl rfl ?_
 refine aU ?_
 refine E_stS hS rfl (xv := .agg (nX (.nils) ⟨12, 0, 0, 0, -1, 0, 0, 0, 0, [], 0, 0⟩)) rfl Rp.here rfl rfl zqV (fun S hS => ?_)
 refine aU ?_
 refine b7 hS rfl (.tail _ (.tail _ (.tail _ (.tail _ (.tail _ (.head _)))))) (v := .ptr b 0 0) rfl ?_
 refine aU ?_
 refine b7 hS rfl (.tail _ (.tail _ (.tail _ (.tail _ (.tail _ (.tail _ (.head _))))))) (v := .cptr (Func.cells f) 0) B.hf ?_
 refine aU ?_
 refine E_cs (t := true) (by show AV.bool f.Result = _; rw [hR]) (fun _ => ?_) (fun h => by cases h)
 refine aU ?_
 refine p9 (q6 (b := b) (o3 := o3) (o5 := o5) (o8 := o8) B h1) hS rfl x5 rfl (Spl.cons (Pk.there (Pk.there (Pk.there (Pk.there (Pk.there Pk.here))))) (Spl.cons (Pk.there Pk.here) (Spl.cons (Pk.there (Pk.there (Pk.there Pk.here))) (Spl.cons (Pk.there (Pk.there (Pk.there Pk.here))) Spl.nil)))) ?_
 refine aU ?_
 refine E_stS hS rfl (xv := .int .i64 t1) rfl Rp.here rfl rfl zqV (fun S hS => ?_)
 refine aU ?_
 refine aE ?_
 refine s9 (F := nF o3 o5 o6 o7 o8 o11 at_ f s) wF ?_
 refine g7 (a := .nils) (n := ⟨12, 0, 0, 0, t1, 0, 0, 0, 0, [], 0, 0⟩) ⟨rfl, rfl⟩ B.hf B.hn B.hat hS (fun S hS fr' hfr => ?_)
 exact ⟨trivial, _, f6 hfr (hS.at (.head _)) rfl, _, ⟨rfl, rfl⟩, hS.sub (List.sublist_cons_self _ _)⟩
theorem c1z (B : NB p f cl cs cell s at_) (hi : j9 f.Code at_ = some i) (hop : i.Op = 24) (hR : f.Result = false) :
  Tri Try.prog 54 [.ptr b 0 0, .int .i64 at_, .sl false 1 (s.map (avI .u8))] [(b, 0, cs), (cl, 0, flat (avI .i64) cell)] (fun x L' => x = .agg (nX .nils { (⟨12, 0, 0, 0, -1, 0, 0, 0, 0, [], 0, 0⟩ : b8) with Next := o9 f at_ i }) /\ L' = [(b, 0, cs), (cl, 0, flat (avI .i64) cell)]) := by
 have hs0 := B.hs
 refine j7 mixed a1D zS [3, 5, 6, 7, 8, 11, 12] (fun R S hS => j4 B.hf B.hl zO hi hS (fun o3 o5 o6 o7 o8 o11 S hS => ?_))
 rw [hop]
 (repeat refine j6 rfl rfl ?_)
 refine a0q rfl zD zD rfl rfl (fun h => by cases h) (fun _ => ?_)
 (repeat refine j6 rfl rfl ?_)
 refine x7 rfl rfl ?_
 refine aU ?_
 refine E_stS hS rfl (xv := .agg (nX (.nils) ⟨12, 0, 0, 0, -1, 0, 0, 0, 0, [], 0, 0⟩)) rfl Rp.here rfl rfl zqV (fun S hS => ?_)
 refine aU ?_
 refine b7 hS rfl (.tail _ (.tail _ (.tail _ (.tail _ (.tail _ (.head _)))))) (v := .ptr b 0 0) rfl ?_
 refine aU ?_
 refine b7 hS rfl (.tail _ (.tail _ (.tail _ (.tail _ (.tail _ (.tail _ (.head _))))))) (v := .cptr (Func.cells f) 0) B.hf ?_
 refine aU ?_
 refine E_cs (t := false) (by show AV.bool f.Result = _; rw [hR]) (fun h => by cases h) (fun _ => ?_)
 refine aU ?_
 refine aE ?_
 refine s9 (F := nF o3 o5 o6 o7 o8 o11 at_ f s) wF ?_
 refine g7 (a := .nils) (n := ⟨12, 0, 0, 0, -1, 0, 0, 0, 0, [], 0, 0⟩) ⟨rfl, rfl⟩ B.hf B.hn B.hat hS (fun S hS fr' hfr => ?_)
 exact ⟨trivial, _, f6 hfr (hS.at (.head _)) rfl, _, ⟨rfl, rfl⟩, hS.sub (List.sublist_cons_self _ _)⟩
theorem c1A {t1 t2 : Int} (B : NB p f cl cs cell s at_) (hi : j9 f.Code at_ = some i) (hop : b8E i.Op) (h1 : a1C f s 1 = some t1) (h2 : a1C f s 2 = some t2) :
  Tri Try.prog 54 [.ptr b 0 0, .int .i64 at_, .sl false 1 (s.map (avI .u8))] [(b, 0, cs), (cl, 0, flat (avI .i64) cell)] (fun x L' => x = .agg (nX .nils { (⟨3, i.Op, t2, 0, t2, t1, 0, 0, 0, [], 0, 0⟩ : b8) with Next := o9 f at_ i }) /\ L' = [(b, 0, cs), (cl, 0, flat (avI .i64) cell)]) := by
 have hs0 := B.hs
 refine j7 mixed a1D zS [3, 5, 6, 7, 8, 11, 12] (fun R S hS => j4 B.hf B.hl zO hi hS (fun o3 o5 o6 o7 o8 o11 S hS => ?_))
 obtain ⟨o1_, o2_, o3_, o4_, o5_, o6_, o21_, o31_, o22_, o23_, o25_, o24_, o26_, o27_, o28_, o29_, o30_, o32_⟩ := hop
 refine j6 rfl o1_ (j6 rfl o2_ (j6 rfl o3_ (j6 rfl o4_ (j6 rfl o5_ (j6 rfl o6_ (a0q rfl zD zD o21_ o31_ (fun h => by cases h) (fun _ => j6 rfl o22_ (j6 rfl o23_ (j6 rfl o25_ (j6 rfl o24_ (j6 rfl o26_ (j6 rfl o27_ (j6 rfl o28_ (j6 rfl o29_ (j6 rfl o30_ (j6 rfl o32_ (?_)))))))))))))))))
 refine s4 ?_
 refine aU ?_
 refine b7 hS rfl (.tail _ (.tail _ (.head _))) (v := .int .u8 i.Op) rfl ?_
 refine aU ?_
 refine p9 (q6 (b := b) (o3 := o3) (o5 := o5) (o8 := o8) B h2) hS rfl x5 rfl (Spl.cons (Pk.there (Pk.there (Pk.there (Pk.there (Pk.there Pk.here))))) (Spl.cons (Pk.there Pk.here) (Spl.cons (Pk.there (Pk.there (Pk.there Pk.here))) (Spl.cons (Pk.there (Pk.there (Pk.there Pk.here))) Spl.nil)))) ?_
 refine aU ?_
 refine p9 (q6 (b := b) (o3 := o3) (o5 := o5) (o8 := o8) B h2) hS rfl x5 rfl (Spl.cons (Pk.there (Pk.there (Pk.there (Pk.there (Pk.there Pk.here))))) (Spl.cons (Pk.there Pk.here) (Spl.cons (Pk.there (Pk.there (Pk.there Pk.here))) (Spl.cons (Pk.there (Pk.there (Pk.there Pk.here))) Spl.nil)))) ?_
 refine aU ?_
 refine p9 (q6 (b := b) (o3 := o3) (o5 := o5) (o8 := o8) B h1) hS rfl x5 rfl (Spl.cons (Pk.there (Pk.there (Pk.there (Pk.there (Pk.there Pk.here))))) (Spl.cons (Pk.there Pk.here) (Spl.cons (Pk.there (Pk.there (Pk.there Pk.here))) (Spl.cons (Pk.there (Pk.there (Pk.there Pk.here))) Spl.nil)))) ?_
 refine aU ?_
 refine E_stS hS rfl (xv := .agg (nX (.nils) ⟨3, i.Op, t2, 0, t2, t1, 0, 0, 0, [], 0, 0⟩)) rfl Rp.here rfl rfl zqV (fun S hS => ?_)
 refine a7 ?_
 refine And.intro (by simp [u7, a1u, r5, y8]) ?_
 refine aE ?_
 refine s9 (F := nF o3 o5 o6 o7 o8 o11 at_ f s) wF ?_
 refine g7 (a := .nils) (n := ⟨3, i.Op, t2, 0, t2, t1, 0, 0, 0, [], 0, 0⟩) ⟨rfl, rfl⟩ B.hf B.hn B.hat hS (fun S hS fr' hfr => ?_)
 exact ⟨trivial, _, f6 hfr (hS.at (.head _)) rfl, _, ⟨rfl, rfl⟩, hS.sub (List.sublist_cons_self _ _)⟩
theorem c4f {g : Func} {m : Nat} (B : NB p f cl cs cell s at_) (hi : j9 f.Code at_ = some i) (hop : i.Op = 25) (hg : j9 p.Funcs i.Arg = some g) (hm : (s.length : Int) - g.Params = (m : Int)) (hm2 : m <= s.length) :
  Tri Try.prog 54 [.ptr b 0 0, .int .i64 at_, .sl false 1 (s.map (avI .u8))] [(b, 0, cs), (cl, 0, flat (avI .i64) cell)] (fun x L' => ∃ lx : Nat, x = .agg (nX (.ref lx (s.length - m) 0 (s.length - m) none) { (⟨13, 0, 0, 0, 0, 0, i.Arg, 0, 0, m9 f s m (s.length - m), 0, 0⟩ : b8) with Next := o9 f at_ i }) /\ L' = [(b, 0, cs), (cl, 0, flat (avI .i64) cell), (lx, s.length - m, flat (avI .i64) (m9 f s m (s.length - m)))]) := by
 have hs0 := B.hs
 refine j7 mixed a1D zS [3, 5, 6, 7, 8, 11, 12] (fun R S hS => j4 B.hf B.hl zO hi hS (fun o3 o5 o6 o7 o8 o11 S hS => ?_))
 rw [hop]
 (repeat refine j6 rfl rfl ?_)
 refine a0q rfl zD zD rfl rfl (fun h => by cases h) (fun _ => ?_)
 (repeat refine j6 rfl rfl ?_)
 refine x7 rfl rfl ?_
 refine s4 ?_
 refine aU ?_
 refine b7 hS rfl (.tail _ (.tail _ (.head _))) (v := .int .i64 i.Arg) rfl ?_
 refine aU ?_
 refine b7 hS rfl (.tail _ (.tail _ (.tail _ (.tail _ (.tail _ (.head _)))))) (v := .ptr b 0 0) rfl ?_
 refine aU ?_
 refine b7 hS rfl (.tail _ (.tail _ (.tail _ (.tail _ (.head _))))) (v := .sl false 1 (s.map (avI .u8))) rfl ?_
 refine aU ?_
 refine b7 hS rfl (.tail _ (.tail _ (.head _))) (v := .int .i64 i.Arg) rfl ?_
 refine aU ?_
 have hm1 := hS.at (.tail _ (.tail _ (.head _)))
 refine a2S (a5h (p := p) (f := f) (b := b) (cs := cs) (s := s) (fi := i.Arg) (g := g) (n := m) B.p0 B.hf B.hl zO B.hk hg hm hm2) hS rfl (Spl.cons (Pk.there (Pk.there (Pk.there (Pk.there (Pk.there (Pk.there (Pk.here))))))) Spl.nil) (fun x S L' hL hS => ?_)
 obtain ⟨lx, rfl, rfl⟩ := hL
 have hS2 : Ab.Sep S (nLs b cl o3 o5 o6 o7 o8 o11 cs cell s i (.nils) zN ((lx, s.length - m, flat (avI .i64) (m9 f s m (s.length - m))) :: R)) := hS.perm (Spl.cons (Pk.there (Pk.there Pk.here)) (Spl.cons (Pk.there (Pk.there Pk.here)) (Spl.cons (Pk.there (Pk.there Pk.here)) (Spl.cons (Pk.there (Pk.there Pk.here)) (Spl.cons (Pk.there (Pk.there Pk.here)) (Spl.cons (Pk.there (Pk.there Pk.here)) (Spl.cons (Pk.there Pk.here) (Spl.cons (Pk.there Pk.here) (Spl.cons Pk.here (.refl _))))))))))
 clear hS
 have hS := hS2
 clear hS2
 have hm3 := hS.at (.tail _ (.tail _ (.head _)))
 refine aU ?_
 refine E_stS hS rfl (xv := .agg (nX (.ref lx (s.length - m) 0 (s.length - m) none) ⟨13, 0, 0, 0, 0, 0, i.Arg, 0, 0, m9 f s m (s.length - m), 0, 0⟩)) rfl Rp.here rfl rfl zqV (fun S hS => ?_)
 refine a7 ?_
 refine And.intro ⟨⟨rfl, fun x hx => by rw [List.mem_singleton.1 hx]; exact hm3.trans hm1.symm⟩, trivial⟩ ?_
 refine aE ?_
 refine s9 (F := nF o3 o5 o6 o7 o8 o11 at_ f s) wF ?_
 refine g7 (a := .ref lx (s.length - m) 0 (s.length - m) none) (n := ⟨13, 0, 0, 0, 0, 0, i.Arg, 0, 0, m9 f s m (s.length - m), 0, 0⟩) ⟨rfl, rfl⟩ B.hf B.hn B.hat hS (fun S hS fr' hfr => ?_)
 exact ⟨trivial, _, f6 hfr (hS.at (.head _)) rfl, _, ⟨lx, rfl, rfl⟩, hS.sub (List.sublist_cons_self _ _)⟩
theorem c1B {g : Func} {m : Nat} (B : NB p f cl cs cell s at_) (hi : j9 f.Code at_ = some i) (hop : i.Op = 23) (hg : j9 p.Funcs i.Arg = some g) (hm : (s.length : Int) - g.Params = (m : Int)) (hm2 : m <= s.length) (hR : g.Result = false) :
  Tri Try.prog 54 [.ptr b 0 0, .int .i64 at_, .sl false 1 (s.map (avI .u8))] [(b, 0, cs), (cl, 0, flat (avI .i64) cell)] (fun x L' => ∃ lx : Nat, x = .agg (nX (.ref lx (s.length - m) 0 (s.length - m) none) { (⟨11, 0, -1, 0, 0, 0, i.Arg, 0, 0, m9 f s m (s.length - m), 0, 0⟩ : b8) with Next := o9 f at_ i }) /\ L' = [(b, 0, cs), (cl, 0, flat (avI .i64) cell), (lx, s.length - m, flat (avI .i64) (m9 f s m (s.length - m)))]) := by
 have hs0 := B.hs
 refine j7 mixed a1D zS [3, 5, 6, 7, 8, 11, 12] (fun R S hS => j4 B.hf B.hl zO hi hS (fun o3 o5 o6 o7 o8 o11 S hS => ?_))
 rw [hop]
 (repeat refine j6 rfl rfl ?_)
 refine a0q rfl zD zD rfl rfl (fun h => by cases h) (fun _ => ?_)
 (repeat refine j6 rfl rfl ?_)
 refine x7 rfl rfl ?_
 refine c7 ?_
 refine s4 ?_
 refine aU ?_
 refine b7 hS rfl (.tail _ (.tail _ (.tail _ (.tail _ (.tail _ (.head _)))))) (v := .ptr b 0 0) rfl ?_
 refine aU ?_
 refine b7 hS rfl (.tail _ (.tail _ (.tail _ (.tail _ (.tail _ (.tail _ (.head _))))))) (v := .cptr (Program.cells p) 0) B.p0 ?_
 refine aU ?_
 refine b7 hS rfl (.tail _ (.tail _ (.head _))) (v := .int .i64 i.Arg) rfl ?_
 refine aU ?_
 refine g8 (esh := some 5) (f := Func.av) (ys := p.Funcs) (y := g) rfl rfl hg ?_
 refine aU ?_
 refine z7 hS rfl (fun o12 S hS => ?_)
 have no3 : o3 ≠ o12 := fun e => (List.nodup_cons.1 hS.2).1 (by rw [<- e]; exact List.mem_map.2 ⟨_, (.tail _ (.tail _ (.tail _ (.tail _ (.tail _ (.head _)))))), rfl⟩)
 have nb : b ≠ o12 := fun e => (List.nodup_cons.1 hS.2).1 (by rw [<- e]; exact List.mem_map.2 ⟨_, (.tail _ (.tail _ (.tail _ (.tail _ (.tail _ (.tail _ (.head _))))))), rfl⟩)
 have no7 : o7 ≠ o12 := fun e => (List.nodup_cons.1 hS.2).1 (by rw [<- e]; exact List.mem_map.2 ⟨_, (.tail _ (.tail _ (.head _))), rfl⟩)
 refine E_stS hS rfl (xv := g.av) rfl Rp.here rfl rfl zqV (fun S hS => ?_)
 refine a7 ?_
 refine And.intro (by simp [u7, a1u, r5, y8, no3, nb, no7, Ne.symm no3, Ne.symm nb, Ne.symm no7]) ?_
 refine d7 ?_
 refine c7 ?_
 refine s4 ?_
 refine aU ?_
 refine b7 hS rfl (.tail _ (.tail _ (.tail _ (.head _)))) (v := .int .i64 i.Arg) rfl ?_
 refine aU ?_
 refine b7 hS rfl (.tail _ (.tail _ (.tail _ (.tail _ (.tail _ (.tail _ (.head _))))))) (v := .ptr b 0 0) rfl ?_
 refine aU ?_
 refine b7 hS rfl (.tail _ (.tail _ (.tail _ (.tail _ (.tail _ (.head _)))))) (v := .sl false 1 (s.map (avI .u8))) rfl ?_
 refine aU ?_
 refine b7 hS rfl (.tail _ (.tail _ (.tail _ (.head _)))) (v := .int .i64 i.Arg) rfl ?_
 refine aU ?_
 have hm1 := hS.at (.tail _ (.tail _ (.tail _ (.head _))))
 refine a2S (a5h (p := p) (f := f) (b := b) (cs := cs) (s := s) (fi := i.Arg) (g := g) (n := m) B.p0 B.hf B.hl zO B.hk hg hm hm2) hS rfl (Spl.cons (Pk.there (Pk.there (Pk.there (Pk.there (Pk.there (Pk.there (Pk.there (Pk.here)))))))) Spl.nil) (fun x S L' hL hS => ?_)
 obtain ⟨lx, rfl, rfl⟩ := hL
 have hS2 : Ab.Sep S ((o12, 0, g.cells) :: nLs b cl o3 o5 o6 o7 o8 o11 cs cell s i (.nils) zN ((lx, s.length - m, flat (avI .i64) (m9 f s m (s.length - m))) :: R)) := hS.perm (Spl.cons (Pk.there (Pk.there Pk.here)) (Spl.cons (Pk.there (Pk.there Pk.here)) (Spl.cons (Pk.there (Pk.there Pk.here)) (Spl.cons (Pk.there (Pk.there Pk.here)) (Spl.cons (Pk.there (Pk.there Pk.here)) (Spl.cons (Pk.there (Pk.there Pk.here)) (Spl.cons (Pk.there (Pk.there Pk.here)) (Spl.cons (Pk.there Pk.here) (Spl.cons (Pk.there Pk.here) (Spl.cons Pk.here (.refl _)))))))))))
 clear hS
 have hS := hS2
 clear hS2
 have hm3 := hS.at (.tail _ (.tail _ (.tail _ (.head _))))
 refine aU ?_
 refine E_stS hS rfl (xv := .agg (nX (.ref lx (s.length - m) 0 (s.length - m) none) ⟨11, 0, -1, 0, 0, 0, i.Arg, 0, 0, m9 f s m (s.length - m), 0, 0⟩)) rfl (Rp.there Rp.here) rfl rfl zqV (fun S hS => ?_)
 refine a7 ?_
 refine And.intro ⟨⟨rfl, fun x hx => by rw [List.mem_singleton.1 hx]; exact hm3.trans hm1.symm⟩, trivial⟩ ?_
 refine aU ?_
 refine b7 hS rfl (.head _) (v := .bool g.Result) rfl ?_
 refine aU ?_
 refine E_cs (t := false) (by show AV.bool g.Result = _; rw [hR]) (fun h => by cases h) (fun _ => ?_)
 refine aU ?_
 have hS2 : Ab.Sep S (nLs b cl o3 o5 o6 o7 o8 o11 cs cell s i (.ref lx (s.length - m) 0 (s.length - m) none) ⟨11, 0, -1, 0, 0, 0, i.Arg, 0, 0, m9 f s m (s.length - m), 0, 0⟩ ((lx, s.length - m, flat (avI .i64) (m9 f s m (s.length - m))) :: R)) := hS.sub (List.sublist_cons_self _ _)
 clear hS
 have hS := hS2
 refine aE ?_
 refine s9 (F := nF o3 o5 o6 o7 o8 o11 at_ f s) wF ?_
 refine g7 (a := .ref lx (s.length - m) 0 (s.length - m) none) (n := ⟨11, 0, -1, 0, 0, 0, i.Arg, 0, 0, m9 f s m (s.length - m), 0, 0⟩) ⟨rfl, rfl⟩ B.hf B.hn B.hat hS (fun S hS fr' hfr => ?_)
 exact ⟨trivial, _, f6 hfr (hS.at (.head _)) rfl, _, ⟨lx, rfl, rfl⟩, hS.sub (List.sublist_cons_self _ _)⟩
theorem c1C {g : Func} {m : Nat} (B : NB p f cl cs cell s at_) (hi : j9 f.Code at_ = some i) (hop : i.Op = 23) (hg : j9 p.Funcs i.Arg = some g) (hm : (s.length : Int) - g.Params = (m : Int)) (hm2 : m <= s.length) (hR : g.Result = true) :
  Tri Try.prog 54 [.ptr b 0 0, .int .i64 at_, .sl false 1 (s.map (avI .u8))] [(b, 0, cs), (cl, 0, flat (avI .i64) cell)] (fun x L' => ∃ lx : Nat, x = .agg (nX (.ref lx (s.length - m) 0 (s.length - m) none) { (⟨11, 0, i9 f ((s.length : Int) - g.Params) 0, 0, 0, 0, i.Arg, 0, 0, m9 f s m (s.length - m), 0, 0⟩ : b8) with Next := o9 f at_ i }) /\ L' = [(b, 0, cs), (cl, 0, flat (avI .i64) cell), (lx, s.length - m, flat (avI .i64) (m9 f s m (s.length - m)))]) := by
 have hs0 := B.hs
 refine j7 mixed a1D zS [3, 5, 6, 7, 8, 11, 12] (fun R S hS => j4 B.hf B.hl zO hi hS (fun o3 o5 o6 o7 o8 o11 S hS => ?_))
 rw [hop]
 (repeat refine j6 rfl rfl ?_)
 refine a0q rfl zD zD rfl rfl (fun h => by cases h) (fun _ => ?_)
 (repeat refine j6 rfl rfl ?_)
 refine x7 rfl rfl ?_
 refine c7 ?_
 refine s4 ?_
 refine aU ?_
 refine b7 hS rfl (.tail _ (.tail _ (.tail _ (.tail _ (.tail _ (.head _)))))) (v := .ptr b 0 0) rfl ?_
 refine aU ?_
 refine b7 hS rfl (.tail _ (.tail _ (.tail _ (.tail _ (.tail _ (.tail _ (.head _))))))) (v := .cptr (Program.cells p) 0) B.p0 ?_
 refine aU ?_
 refine b7 hS rfl (.tail _ (.tail _ (.head _))) (v := .int .i64 i.Arg) rfl ?_
 refine aU ?_
 refine g8 (esh := some 5) (f := Func.av) (ys := p.Funcs) (y := g) rfl rfl hg ?_
 refine aU ?_
 refine z7 hS rfl (fun o12 S hS => ?_)
 have no3 : o3 ≠ o12 := fun e => (List.nodup_cons.1 hS.2).1 (by rw [<- e]; exact List.mem_map.2 ⟨_, (.tail _ (.tail _ (.tail _ (.tail _ (.tail _ (.head _)))))), rfl⟩)
 have nb : b ≠ o12 := fun e => (List.nodup_cons.1 hS.2).1 (by rw [<- e]; exact List.mem_map.2 ⟨_, (.tail _ (.tail _ (.tail _ (.tail _ (.tail _ (.tail _ (.head _))))))), rfl⟩)
 have no7 : o7 ≠ o12 := fun e => (List.nodup_cons.1 hS.2).1 (by rw [<- e]; exact List.mem_map.2 ⟨_, (.tail _ (.tail _ (.head _))), rfl⟩)
 refine E_stS hS rfl (xv := g.av) rfl Rp.here rfl rfl zqV (fun S hS => ?_)
 refine a7 ?_
 refine And.intro (by simp [u7, a1u, r5, y8, no3, nb, no7, Ne.symm no3, Ne.symm nb, Ne.symm no7]) ?_
 refine d7 ?_
 refine c7 ?_
 refine s4 ?_
 refine aU ?_
 refine b7 hS rfl (.tail _ (.tail _ (.tail _ (.head _)))) (v := .int .i64 i.Arg) rfl ?_
 refine aU ?_
 refine b7 hS rfl (.tail _ (.tail _ (.tail _ (.tail _ (.tail _ (.tail _ (.head _))))))) (v := .ptr b 0 0) rfl ?_
 refine aU ?_
 refine b7 hS rfl (.tail _ (.tail _ (.tail _ (.tail _ (.tail _ (.head _)))))) (v := .sl false 1 (s.map (avI .u8))) rfl ?_
 refine aU ?_
 refine b7 hS rfl (.tail _ (.tail _ (.tail _ (.head _)))) (v := .int .i64 i.Arg) rfl ?_
 refine aU ?_
 have hm1 := hS.at (.tail _ (.tail _ (.tail _ (.head _))))
 refine a2S (a5h (p := p) (f := f) (b := b) (cs := cs) (s := s) (fi := i.Arg) (g := g) (n := m) B.p0 B.hf B.hl zO B.hk hg hm hm2) hS rfl (Spl.cons (Pk.there (Pk.there (Pk.there (Pk.there (Pk.there (Pk.there (Pk.there (Pk.here)))))))) Spl.nil) (fun x S L' hL hS => ?_)
 obtain ⟨lx, rfl, rfl⟩ := hL
 have hS2 : Ab.Sep S ((o12, 0, g.cells) :: nLs b cl o3 o5 o6 o7 o8 o11 cs cell s i (.nils) zN ((lx, s.length - m, flat (avI .i64) (m9 f s m (s.length - m))) :: R)) := hS.perm (Spl.cons (Pk.there (Pk.there Pk.here)) (Spl.cons (Pk.there (Pk.there Pk.here)) (Spl.cons (Pk.there (Pk.there Pk.here)) (Spl.cons (Pk.there (Pk.there Pk.here)) (Spl.cons (Pk.there (Pk.there Pk.here)) (Spl.cons (Pk.there (Pk.there Pk.here)) (Spl.cons (Pk.there (Pk.there Pk.here)) (Spl.cons (Pk.there Pk.here) (Spl.cons (Pk.there Pk.here) (Spl.cons Pk.here (.refl _)))))))))))
 clear hS
 have hS := hS2
 clear hS2
 have hm3 := hS.at (.tail _ (.tail _ (.tail _ (.head _))))
 refine aU ?_
 refine E_stS hS rfl (xv := .agg (nX (.ref lx (s.length - m) 0 (s.length - m) none) ⟨11, 0, -1, 0, 0, 0, i.Arg, 0, 0, m9 f s m (s.length - m), 0, 0⟩)) rfl (Rp.there Rp.here) rfl rfl zqV (fun S hS => ?_)
 refine a7 ?_
 refine And.intro ⟨⟨rfl, fun x hx => by rw [List.mem_singleton.1 hx]; exact hm3.trans hm1.symm⟩, trivial⟩ ?_
 refine aU ?_
 refine b7 hS rfl (.head _) (v := .bool g.Result) rfl ?_
 refine aU ?_
 refine E_cs (t := true) (by show AV.bool g.Result = _; rw [hR]) (fun _ => ?_) (fun h => by cases h)
 refine aU ?_
 refine b7 hS rfl (.tail _ (.tail _ (.tail _ (.tail _ (.tail _ (.tail _ (.head _))))))) (v := .ptr b 0 0) rfl ?_
 refine aU ?_
 refine b7 hS rfl (.tail _ (.tail _ (.head _))) (v := .int .i64 s.length) rfl ?_
 refine aU ?_
 refine b7 hS rfl (.head _) (v := .int .i64 g.Params) rfl ?_
 refine aU ?_
 rw [p4 (x := (s.length : Int) - g.Params) zO]
 refine a7f (w7 (b := b) (d := (s.length : Int) - g.Params) (k := 0) B.hf B.hl zO zO) hS rfl (Spl.cons (Pk.there (Pk.there (Pk.there (Pk.there (Pk.there (Pk.there (Pk.there Pk.here))))))) Spl.nil) ?_
 refine aU ?_
 refine E_stS hS rfl (xv := .int .i64 (i9 f ((s.length : Int) - g.Params) 0)) rfl (Rp.there Rp.here) rfl rfl zqV (fun S hS => ?_)
 refine aU ?_
 have hS2 : Ab.Sep S (nLs b cl o3 o5 o6 o7 o8 o11 cs cell s i (.ref lx (s.length - m) 0 (s.length - m) none) ⟨11, 0, i9 f ((s.length : Int) - g.Params) 0, 0, 0, 0, i.Arg, 0, 0, m9 f s m (s.length - m), 0, 0⟩ ((lx, s.length - m, flat (avI .i64) (m9 f s m (s.length - m))) :: R)) := hS.sub (List.sublist_cons_self _ _)
 clear hS
 have hS := hS2
 refine aE ?_
 refine s9 (F := nF o3 o5 o6 o7 o8 o11 at_ f s) wF ?_
 refine g7 (a := .ref lx (s.length - m) 0 (s.length - m) none) (n := ⟨11, 0, i9 f ((s.length : Int) - g.Params) 0, 0, 0, 0, i.Arg, 0, 0, m9 f s m (s.length - m), 0, 0⟩) ⟨rfl, rfl⟩ B.hf B.hn B.hat hS (fun S hS fr' hfr => ?_)
 exact ⟨trivial, _, f6 hfr (hS.at (.head _)) rfl, _, ⟨lx, rfl, rfl⟩, hS.sub (List.sublist_cons_self _ _)⟩
end
end Go.Proofs.Ytnpemocpfdgaoaa

/- build: a node whose arguments stay an object, plainly (printed by mkP2.py). -/
namespace Go.Proofs.Ytnpemocpfdgaoaa
open Go Go.Ab
structure QN where
 n : b8
 k : Bool
 a : Nat
def QN.arg : QN -> AV
 | ⟨n, true, a⟩ => .ref a n.Args.length 0 n.Args.length none
 | ⟨_, false, _⟩ => .nils
abbrev QN.cells (q : QN) : List AV := nX q.arg q.n
def QN.ok (q : QN) : Prop := q.k = true \/ q.n.Args = []
def QN.its : QN -> List It
 | ⟨n, true, a⟩ => [(a, n.Args.length, flat (avI .i64) n.Args)]
 | ⟨_, false, _⟩ => []
theorem QN.one {q : QN} : (AV.agg q.cells).cells.all AV.one = true := by
 obtain ⟨n, k, a⟩ := q
 cases k <;> rfl
def nC (l : List QN) : List AV := l.flatMap fun q => q.cells
def qI (l : List QN) : List It := l.reverse.flatMap QN.its
theorem b5v {l : List QN} {q : QN} : nC (l ++ [q]) = nC l ++ q.cells := by simp [nC]
theorem b5w {l : List QN} {q : QN} : qI (l ++ [q]) = q.its ++ qI l := by simp [qI]
theorem a5U : ∀ l : List QN, (nC l).length = l.length * 12
 | [] => rfl
 | q :: l => by show (q.cells ++ nC l).length = _; rw [List.length_append, a5U l]; simp; omega
section
variable {p : Program} {f : Func} {b cl : Nat} {cs : List AV} {cell s : List Int} {at_ : Int} {i : Instr} {args : List AV} {g : Nat} {L : List It} {x1 x2 : It}
theorem okN {n : b8} (h : Tri Try.prog g args L (fun x L' => x = .agg (nX .nils n) /\ L' = [x1, x2])) (hA : n.Args = []) : Tri Try.prog g args L (fun x L' => ∃ q : QN, q.n = n /\ q.ok /\ x = .agg q.cells /\ L' = x1 :: x2 :: q.its) :=
 h.mono fun x L' ⟨h1, h2⟩ => ⟨⟨n, false, 0⟩, rfl, .inr hA, h1, h2⟩
theorem okC {n : b8} {m : Nat} (h : Tri Try.prog g args L (fun x L' => ∃ lx : Nat, x = .agg (nX (.ref lx m 0 m none) n) /\ L' = [x1, x2, (lx, m, flat (avI .i64) n.Args)])) (hm : n.Args.length = m) : Tri Try.prog g args L (fun x L' => ∃ q : QN, q.n = n /\ q.ok /\ x = .agg q.cells /\ L' = x1 :: x2 :: q.its) :=
 h.mono fun x L' ⟨lx, h1, h2⟩ => ⟨⟨n, true, lx⟩, rfl, .inl rfl, by subst hm; exact h1, by subst hm; exact h2⟩
theorem b1t {n : b8} (B : NB p f cl cs cell s at_) (hlk : ∀ k ∈ f.Locals, 0 <= k /\ k < 256) (hi : j9 f.Code at_ = some i) (hv : ndI p f cell s i = some n) :
  Tri Try.prog 54 [.ptr b 0 0, .int .i64 at_, .sl false 1 (s.map (avI .u8))] [(b, 0, cs), (cl, 0, flat (avI .i64) cell)] (fun x L' => ∃ q : QN, q.n = { n with Next := o9 f at_ i } /\ q.ok /\ x = .agg q.cells /\ L' = (b, 0, cs) :: (cl, 0, flat (avI .i64) cell) :: q.its) := by
 unfold ndI at hv
 by_cases h : i.Op = 1
 ·rw [if_pos h] at hv; cases hv; exact okN (c7U B hi h) (by first | rfl | exact j8)
 rw [if_neg h] at hv; have n1 := h; clear h
 by_cases h : i.Op = 2
 ·rw [if_pos h] at hv
  obtain ⟨c, q1, hv⟩ := Option.bind_eq_some_iff.1 hv
  obtain ⟨k, q2, rfl⟩ := Option.map_eq_some_iff.1 hv
  exact okN (c7Y B hi h q1 q2 (hlk k (a4U q2))) (by first | rfl | exact j8)
 rw [if_neg h] at hv; have n2 := h; clear h
 by_cases h : i.Op = 3
 ·rw [if_pos h] at hv
  obtain ⟨c, q1, hv⟩ := Option.bind_eq_some_iff.1 hv
  obtain ⟨t, q2, rfl⟩ := Option.map_eq_some_iff.1 hv
  exact okN (c7Z B hi h q1 q2) (by first | rfl | exact j8)
 rw [if_neg h] at hv; have n3 := h; clear h
 by_cases h : i.Op = 4
 ·rw [if_pos h] at hv
  obtain ⟨c, q1, rfl⟩ := Option.map_eq_some_iff.1 hv
  exact okN (c7V B hi h q1) (by first | rfl | exact j8)
 rw [if_neg h] at hv; have n4 := h; clear h
 by_cases h : i.Op = 5
 ·rw [if_pos h] at hv
  obtain ⟨t, q1, rfl⟩ := Option.map_eq_some_iff.1 hv
  exact okN (c7W B hi h q1) (by first | rfl | exact j8)
 rw [if_neg h] at hv; have n5 := h; clear h
 by_cases h : i.Op = 6
 ·rw [if_pos h] at hv
  obtain ⟨t1, q1, hv⟩ := Option.bind_eq_some_iff.1 hv
  obtain ⟨t2, q2, rfl⟩ := Option.map_eq_some_iff.1 hv
  exact okN (c7X B hi h q1 q2) (by first | rfl | exact j8)
 rw [if_neg h] at hv; have n6 := h; clear h
 by_cases h : i.Op = 21 \/ i.Op = 31
 ·rw [if_pos h] at hv; cases hv
  rcases h with h | h
  ·exact okN (c4d B hi h) (by first | rfl | exact j8)
  ·exact okN (c4e B hi h) (by first | rfl | exact j8)
 rw [if_neg h] at hv; have n7 := h; clear h
 by_cases h : i.Op = 22
 ·rw [if_pos h] at hv
  obtain ⟨t, q1, rfl⟩ := Option.map_eq_some_iff.1 hv
  exact okN (c3W B hi h q1) (by first | rfl | exact j8)
 rw [if_neg h] at hv; have n22 := h; clear h
 by_cases h : i.Op = 23
 ·rw [if_pos h] at hv
  obtain ⟨g, q1, hv⟩ := Option.bind_eq_some_iff.1 hv
  by_cases q2 : 0 <= g.Params /\ g.Params <= s.length
  ·rw [if_pos q2] at hv; cases hv
   by_cases hR : g.Result = true
   ·rw [if_pos hR]; exact okC (c1C B hi h q1 zO zO hR) (by simp [m9])
   ·rw [if_neg hR]; exact okC (c1B B hi h q1 zO zO (by simpa using hR)) (by simp [m9])
  ·rw [if_neg q2] at hv; cases hv
 rw [if_neg h] at hv; have n23 := h; clear h
 by_cases h : i.Op = 25
 ·rw [if_pos h] at hv
  obtain ⟨g, q1, hv⟩ := Option.bind_eq_some_iff.1 hv
  by_cases q2 : 0 <= g.Params /\ g.Params <= s.length
  ·rw [if_pos q2] at hv; cases hv
   exact okC (c4f B hi h q1 zO zO) (by simp [m9])
  ·rw [if_neg q2] at hv; cases hv
 rw [if_neg h] at hv; have n25 := h; clear h
 by_cases h : i.Op = 24
 ·rw [if_pos h] at hv
  by_cases hR : f.Result = true
  ·rw [if_pos hR] at hv
   obtain ⟨t, q1, rfl⟩ := Option.map_eq_some_iff.1 hv
   exact okN (c1y B hi h hR q1) (by first | rfl | exact j8)
  ·rw [if_neg hR] at hv; cases hv
   exact okN (c1z B hi h (by simpa using hR)) (by first | rfl | exact j8)
 rw [if_neg h] at hv; have n24 := h; clear h
 by_cases h : i.Op = 26
 ·rw [if_pos h] at hv
  obtain ⟨t, q1, rfl⟩ := Option.map_eq_some_iff.1 hv
  exact okN (c3X B hi h q1) (by first | rfl | exact j8)
 rw [if_neg h] at hv; have n26 := h; clear h
 by_cases h : i.Op = 27
 ·rw [if_pos h] at hv; cases hv; exact okN (c4a B hi h) (by first | rfl | exact j8)
 rw [if_neg h] at hv; have n27 := h; clear h
 by_cases h : i.Op = 28
 ·rw [if_pos h] at hv; cases hv; exact okN (c4b B hi h) (by first | rfl | exact j8)
 rw [if_neg h] at hv; have n28 := h; clear h
 by_cases h : i.Op = 29
 ·rw [if_pos h] at hv
  obtain ⟨t, q1, rfl⟩ := Option.map_eq_some_iff.1 hv
  exact okN (c3Y B hi h q1) (by first | rfl | exact j8)
 rw [if_neg h] at hv; have n29 := h; clear h
 by_cases h : i.Op = 30
 ·rw [if_pos h] at hv
  obtain ⟨t, q1, rfl⟩ := Option.map_eq_some_iff.1 hv
  exact okN (c3Z B hi h q1) (by first | rfl | exact j8)
 rw [if_neg h] at hv; have n30 := h; clear h
 by_cases h : i.Op = 32
 ·rw [if_pos h] at hv
  obtain ⟨k, q1, hv⟩ := Option.bind_eq_some_iff.1 hv
  obtain ⟨t, q2, rfl⟩ := Option.map_eq_some_iff.1 hv
  exact okN (c4c B hi h q1 q2) (by first | rfl | exact j8)
 rw [if_neg h] at hv; have n32 := h; clear h
 obtain ⟨t1, q1, hv⟩ := Option.bind_eq_some_iff.1 hv
 obtain ⟨t2, q2, rfl⟩ := Option.map_eq_some_iff.1 hv
 have n21 : i.Op ≠ 21 := fun e => n7 (.inl e)
 have n31 : i.Op ≠ 31 := fun e => n7 (.inr e)
 exact okN (c1A B hi ⟨by simpa using n1, by simpa using n2, by simpa using n3, by simpa using n4, by simpa using n5, by simpa using n6, by simpa using n21, by simpa using n31, by simpa using n22, by simpa using n23, by simpa using n25, by simpa using n24, by simpa using n26, by simpa using n27, by simpa using n28, by simpa using n29, by simpa using n30, by simpa using n32⟩ q1 q2) (by first | rfl | exact j8)
end
end Go.Proofs.Ytnpemocpfdgaoaa

/- build: the graph of a function, its memory kept apart (printed by mkW7.py). -/
namespace Go.Proofs.Ytnpemocpfdgaoaa
open Go Go.Ab
set_option maxRecDepth 20000
set_option maxHeartbeats 4000000
theorem c4g {α : Type} {a b o : α} {its t X : List α} : List.Perm (a :: b :: (its ++ (o :: (t ++ X)))) (o :: a :: b :: (t ++ (its ++ X))) := by
 have h1 : List.Perm (its ++ (o :: (t ++ X))) (o :: (its ++ (t ++ X))) := List.perm_middle
 have h2 : List.Perm (its ++ (t ++ X)) (t ++ (its ++ X)) := by
  rw [<- List.append_assoc, <- List.append_assoc]
  exact List.Perm.append_right _ List.perm_append_comm
 refine ((h1.trans (h2.cons o)).cons b |>.cons a).trans ?_
 exact ((List.Perm.swap o b _).cons a).trans (.swap o a _)
structure QG where
 g : a9
 ki : Nat
 no : Nat
 qs : List QN
abbrev QG.cells (G : QG) : List AV := [.sl false 1 (G.g.Params.map (avI .i64)), .ref G.ki 17 0 G.g.Kinds.length none, .int .i64 G.g.Cells, .sl false 1 (G.g.Init.map (avI .i64)), .bool G.g.Result, .int .i64 G.g.Keep, .ref G.no G.qs.length 0 G.qs.length (some 12), .int .i64 G.g.Entry]
theorem c8a {o : Nat} {a a' : AV} {n n' : b8} {L : List It} : Rp ((o, 0, nX a n) :: L) (o, 0, nX a n) (o, 0, splice (nX a n) 0 (AV.agg (nX a' n')).cells) ((o, 0, nX a' n') :: L) := Rp.here
abbrev c4h : List AV := [.int .u8 0, .int .u8 0, .int .i64 0, .int .i64 0, .int .i64 0, .int .i64 0, .int .i64 0, .int .i64 0, .int .u64 0, .nils, .int .i64 0, .int .i64 0]
theorem c4i {q : QN} : a2Z (repl 1 c4h) [(0, 12, .agg q.cells)] = some q.cells := rfl
theorem c1D {P : Go.Program} {ow : List Nat} {fr : Fr} {S : List Ob} {log : List LE} {d x rs} {K : Fr -> List Ob -> List LE -> Prop} {q : QN} (how : ow.contains d = false) (e : ev (Fr.get fr) x = .agg q.cells)
  (h : VTops P ow rs ((d, .sl true 12 [.agg q.cells]) :: fr) S (.acc [] none :: log) K) : VTops P ow (⟨some d, none, .op (.bsl (some 12) c4h 1 [(0, 12, x)])⟩ :: rs) fr S log K := by
 refine f4 (v := .sl true 12 [.agg q.cells]) ?_ rfl h
 have h1 := QN.one (q := q)
 show (a2Z (repl 1 c4h) [(0, 12, ev (Fr.get fr) x)]).bind (fun cs => a2n (ow.contains d) true (some 12) 1 cs S) = _
 rw [e, c4i, Option.bind_some]
 unfold a2n
 rw [if_pos ⟨Nat.le_of_ble_eq_true rfl, h1⟩, how]
 rfl
theorem c1E {q : QN} : flat (fun q : QN => AV.agg q.cells) [q] = q.cells := List.append_nil _
def QG.its (G : QG) : List It := (G.no, G.qs.length, nC G.qs) :: (G.ki, 17, flat (avI .u8) G.g.Kinds) :: qI G.qs
section
variable {p : Program} {f : Func} {rd : List Bool} {st : List (List Int)}
theorem a9q {g : a9} (hl : f.Locals.length < 1000) (hc : f.Code.length < 100000) (hp : 0 <= f.Params /\ f.Params <= f.Locals.length) (hk0 : f.Keep < f.Locals.length) (hlk : ∀ k ∈ f.Locals, 0 <= k /\ k < 256) (hrd : rd.length < 100000) (hst : ∀ s ∈ st, s.length < 100000 /\ ∀ k ∈ s, 0 <= k /\ k < 256) (hg : a4V p f rd st = some g) :
  Tri Try.prog 29 [.cptr (Program.cells p) 0, .cptr (Func.cells f) 0, .sl false 1 (rd.map avB), .sl false 1 (st.map (avL 1 (avI .u8)))] [] (fun x L' => ∃ G : QG, G.g = g /\ (G.qs.map QN.n = g.Nodes /\ ∀ q ∈ G.qs, q.ok) /\ x = .agg G.cells /\ L' = G.its) := by
 obtain ⟨nds, h1, h2⟩ := Option.bind_eq_some_iff.1 hg
 obtain ⟨kp, h3, rfl⟩ := Option.map_eq_some_iff.1 h2
 obtain ⟨np, hnp⟩ : ∃ np : Nat, f.Params = (np : Int) := ⟨f.Params.toNat, by omega⟩
 rw [show f.Params.toNat = np by omega]
 refine j7 mixed c6w zS [8, 13, 22] (fun R S hS => ?_)
 refine aU ?_
 refine z7 hS rfl (fun o8 S hS => ?_)
 refine a7 ?_
 refine d7 ?_
 refine aQ ?_
 refine aU ?_
 refine a3J hS rfl (xv := .agg (bC p f (.nils) (.nils) (.nils) (0) (.nils) f.Result (-1) (.nils))) rfl rfl (fun b S hS => ?_)
 refine aS ?_
 refine a7 ?_
 refine a3n 3 none (Lf := fun o' => (b, 0, bC p f (.nils) (.ref o' 0 0 0 none) (.nils) (0) (.nils) f.Result (-1) (.nils)) :: (o8, 0, [.nils, .nils, .int .i64 0, .nils, .bool false, .int .i64 0, .nils, .int .i64 0]) :: ([] ++ R)) hS (fun o' => Rp.here) rfl (fun pa S hS => ?_)
 refine a3n 4 none (Lf := fun o' => (pa, 0, []) :: (b, 0, bC p f (.nils) (.ref pa 0 0 0 none) (.ref o' 0 0 0 none) (0) (.nils) f.Result (-1) (.nils)) :: (o8, 0, [.nils, .nils, .int .i64 0, .nils, .bool false, .int .i64 0, .nils, .int .i64 0]) :: ([] ++ R)) hS (fun o' => Rp.there Rp.here) rfl (fun ki S hS => ?_)
 refine a3n 6 none (Lf := fun o' => (ki, 0, []) :: (pa, 0, []) :: (b, 0, bC p f (.nils) (.ref pa 0 0 0 none) (.ref ki 0 0 0 none) (0) (.ref o' 0 0 0 none) f.Result (-1) (.nils)) :: (o8, 0, [.nils, .nils, .int .i64 0, .nils, .bool false, .int .i64 0, .nils, .int .i64 0]) :: ([] ++ R)) hS (fun o' => Rp.there (Rp.there Rp.here)) rfl (fun ini S hS => ?_)
 refine a9d 9 (some 12) (Lf := fun o' => (ini, 0, []) :: (ki, 0, []) :: (pa, 0, []) :: (b, 0, bC p f (.nils) (.ref pa 0 0 0 none) (.ref ki 0 0 0 none) (0) (.ref ini 0 0 0 none) f.Result (-1) (.ref o' 0 0 0 (some 12))) :: (o8, 0, [.nils, .nils, .int .i64 0, .nils, .bool false, .int .i64 0, .nils, .int .i64 0]) :: ([] ++ R)) hS (fun o' => Rp.there (Rp.there (Rp.there Rp.here))) rfl (fun no S hS => ?_)
 refine aU ?_
 refine a2S (a7i zO zO) hS rfl (Spl.cons (Pk.there (Pk.there (Pk.there (Pk.there Pk.here)))) Spl.nil) (fun x S L' hL hS => ?_)
 obtain ⟨cl, rfl⟩ := hL
 refine aU ?_
 refine b7 hS rfl (.head _) (v := .ref ki 0 0 0 none) rfl ?_
 refine aU ?_
 refine a3m (o := ki) (ver := 0) (f := avI .u8) (l := []) (m := f.Locals) (j := []) hS (d8 .u8) rfl (u3 f.Locals) (Rp.there (Rp.there (Rp.there (Rp.there Rp.here)))) ⟨by simp; omega, by simp; omega⟩ (fun S hS => ?_)
 refine aU ?_
 refine E_stS hS rfl (xv := .ref ki 1 0 f.Locals.length none) rfl Rp.here rfl rfl zqV (fun S hS => ?_)
 refine a7 ?_
 refine d7 ?_
 refine a5O (σ := Unit) (fun _ => [(1, .cptr (Func.cells f) 0), (2, .sl false 1 (rd.map avB)), (3, .sl false 1 (st.map (avL 1 (avI .u8)))), (8, .ptr o8 0 0), (9, .ptr b 0 0)]) (fun _ => (b, 0, bC p f (.ref cl 0 0 f.Locals.length none) (.ref pa 0 0 0 none) (.ref ki 17 0 (f.Locals.length + 32) none) (a0s f f.Locals.length) (.ref ini 0 0 0 none) f.Result (-1) (.ref no 0 0 0 (some 12))) :: (cl, 0, flat (avI .i64) (j5 f f.Locals.length f.Locals.length)) :: (no, 0, []) :: (ini, 0, []) :: (ki, 17, flat (avI .u8) (f.Locals ++ j3 16)) :: (pa, 0, []) :: (o8, 0, [.nils, .nils, .int .i64 0, .nils, .bool false, .int .i64 0, .nils, .int .i64 0]) :: ([] ++ R)) (fun _ => True) ?_ (fun _ S _ hS => ?_)
 ·refine c7 ?_
  refine a8 ?_
  refine aU ?_
  refine p5 (a2t (σ := Nat) (fun k => [(1, .cptr (Func.cells f) 0), (2, .sl false 1 (rd.map avB)), (3, .sl false 1 (st.map (avL 1 (avI .u8)))), (8, .ptr o8 0 0), (9, .ptr b 0 0), (39, .int .i64 k)]) (fun k => (b, 0, bC p f (.ref cl 0 0 f.Locals.length none) (.ref pa 0 0 0 none) (.ref ki (1 + k) 0 (f.Locals.length + 2 * k) none) (a0s f f.Locals.length) (.ref ini 0 0 0 none) f.Result (-1) (.ref no 0 0 0 (some 12))) :: (cl, 0, flat (avI .i64) (j5 f f.Locals.length f.Locals.length)) :: (no, 0, []) :: (ini, 0, []) :: (ki, 1 + k, flat (avI .u8) (f.Locals ++ j3 k)) :: (pa, 0, []) :: (o8, 0, [.nils, .nils, .int .i64 0, .nils, .bool false, .int .i64 0, .nils, .int .i64 0]) :: ([] ++ R)) (fun k => k <= 16) (fun k => 16 - k) 0 (by rw [show f.Locals ++ j3 0 = f.Locals by simp [j3]]; exact hS) (Nat.zero_le _) wF (fun k S hI hS => ?_))
  refine aU ?_
  by_cases hk : k < 16
  ·refine E_cs (t := true) (by show AV.bool (decide ((k : Int) < 16)) = _; simp; omega) (fun _ => ?_) (fun h => by cases h)
   refine aU ?_
   refine p5 ?_
   refine aU ?_
   refine b7 hS rfl (.head _) (v := .ref ki (1 + k) 0 (f.Locals.length + 2 * k) none) rfl ?_
   refine aU ?_
   refine a3m (o := ki) (ver := 1 + k) (f := avI .u8) (l := f.Locals ++ j3 k) (m := [0, 1]) (j := []) hS (d8 .u8) (by show AV.ref _ _ _ _ _ = _; rw [List.length_append, r9]) (u3 [(0 : Int), 1]) (Rp.there (Rp.there (Rp.there (Rp.there (by rw [List.append_nil]; exact Rp.here))))) ⟨by simp [r9]; omega, by simp [r9]; omega⟩ (fun S hS => ?_)
   refine aU ?_
   refine E_stS hS rfl (xv := .ref ki (1 + (k + 1)) 0 (f.Locals.length + 2 * (k + 1)) none) (by show AV.ref ki (1 + k + 1) 0 ((f.Locals ++ j3 k) ++ [0, 1]).length none = _; rw [List.length_append, List.length_append, r9]; rfl) Rp.here rfl rfl zqV (fun S hS => ?_)
   refine aU ?_
   refine aE ?_
   rw [List.append_assoc] at hS
   refine aU ?_
   exact s7 ⟨k + 1, by omega, by omega, hS, a5n ⟨.refl _, .refl _, .refl _, .refl _, .refl _, by show a4m none (.int .i64 (IntKind.i64.wrap ((k : Int) + 1))) (.int .i64 ((k + 1 : Nat) : Int)); rw [p4 zO]; exact .refl _, trivial⟩⟩
  ·refine E_cs (t := false) (by show AV.bool (decide ((k : Int) < 16)) = _; simp; omega) (fun h => by cases h) (fun _ => ?_)
   have hk16 : k = 16 := by omega
   subst hk16
   refine a3f ?_
   refine aE ?_
   exact s7 ⟨(), trivial, hS, wF⟩
 refine aU ?_
 refine a1i np (fun _ : Nat => [(1, .cptr (Func.cells f) 0), (2, .sl false 1 (rd.map avB)), (3, .sl false 1 (st.map (avL 1 (avI .u8)))), (8, .ptr o8 0 0), (9, .ptr b 0 0)]) (fun q => (b, 0, bC p f (.ref cl 0 0 f.Locals.length none) (.ref pa q 0 q none) (.ref ki 17 0 (f.Locals.length + 32) none) (a0s f f.Locals.length) (.ref ini q 0 q none) f.Result (-1) (.ref no 0 0 0 (some 12))) :: (cl, 0, flat (avI .i64) (j5 f f.Locals.length f.Locals.length)) :: (no, 0, []) :: (ini, q, flat (avI .i64) ((j5 f f.Locals.length f.Locals.length).take q)) :: (ki, 17, flat (avI .u8) (f.Locals ++ j3 16)) :: (pa, q, flat (avI .i64) ((List.range q).map fun (j : Nat) => (j : Int))) :: (o8, 0, [.nils, .nils, .int .i64 0, .nils, .bool false, .int .i64 0, .nils, .int .i64 0]) :: ([] ++ R)) (fun k q => q = k) 0 hS rfl (a5n ⟨.refl _, by show a4m none (.int .i64 f.Params) (.int .i64 (np : Int)); rw [hnp]; exact .refl _, .refl _, .refl _, .refl _, .refl _, .refl _, trivial⟩) zO zD zD (fun _ => ⟨rfl, rfl, rfl, rfl⟩) (fun k q S hi hI hS => ?_) (fun q fr' S hI hS hw => ?_)
 ·subst hI
  have hcl : (j5 f f.Locals.length f.Locals.length)[q]? = some ((j5 f f.Locals.length f.Locals.length)[q]'(by simp [j5]; omega)) := List.getElem?_eq_getElem _
  have hcn : (j5 f f.Locals.length f.Locals.length).length = f.Locals.length := by simp [j5]
  generalize (j5 f f.Locals.length f.Locals.length)[q]'(by simp [j5]; omega) = cq at hcl
  have e1 : (j5 f f.Locals.length f.Locals.length).take q ++ [cq] = (j5 f f.Locals.length f.Locals.length).take (q + 1) := by rw [List.take_add_one, hcl]; rfl
  have e2 : ((List.range q).map fun (j : Nat) => (j : Int)) ++ [(q : Int)] = (List.range (q + 1)).map fun (j : Nat) => (j : Int) := by rw [List.range_succ, List.map_append]; rfl
  have hnd := hS.2
  have hpb : pa ≠ b := fun e => (List.nodup_cons.1 hnd).1 (List.mem_map.2 ⟨_, .tail _ (.tail _ (.tail _ (.tail _ (.head _)))), e⟩)
  have hpc : pa ≠ cl := fun e => (List.nodup_cons.1 (List.nodup_cons.1 hnd).2).1 (List.mem_map.2 ⟨_, .tail _ (.tail _ (.tail _ (.head _))), e⟩)
  have hib : ini ≠ b := fun e => (List.nodup_cons.1 hnd).1 (List.mem_map.2 ⟨_, .tail _ (.tail _ (.head _)), e⟩)
  refine aU ?_
  refine s4 ?_
  refine aU ?_
  refine b7 hS rfl (.head _) (v := .ref pa q 0 q none) rfl ?_
  refine aU ?_
  refine a3m (o := pa) (ver := q) (l := (List.range q).map fun (j : Nat) => (j : Int)) (m := [(q : Int)]) (j := []) hS (d8 .i64) (by show AV.ref _ _ _ _ _ = _; simp) (u3 [(q : Int)]) (Rp.there (Rp.there (Rp.there (Rp.there (Rp.there (by rw [List.append_nil]; exact Rp.here)))))) ⟨by simp; omega, by simp; omega⟩ (fun S hS => ?_)
  refine aU ?_
  refine b7 hS rfl (.head _) (v := .ref ini q 0 q none) rfl ?_
  refine aU ?_
  refine b7 hS rfl (.head _) (v := .ref cl 0 0 f.Locals.length none) rfl ?_
  refine aU ?_
  refine s6 rfl rfl q rfl zO ?_
  refine a2K hS (d8 .i64) rfl (.tail _ (.head _)) (n := q) (fo := 0) (y := cq) (by simp [d9]) hcl (v := .int .i64 cq) rfl ?_
  refine aU ?_
  refine a3m (o := ini) (ver := q) (l := (j5 f f.Locals.length f.Locals.length).take q) (m := [cq]) (j := []) hS (d8 .i64) (by show AV.ref _ _ _ _ _ = _; rw [List.length_take, hcn, Nat.min_eq_left zO]) (u3 [cq]) (Rp.there (Rp.there (Rp.there (by rw [List.append_nil]; exact Rp.here)))) ⟨by simp [hcn]; omega, by simp [hcn]; omega⟩ (fun S hS => ?_)
  refine aU ?_
  refine E_stS hS rfl (xv := .ref pa (q + 1) 0 (q + 1) none) (by show AV.ref pa (q + 1) 0 (((List.range q).map fun (j : Nat) => (j : Int)) ++ [(q : Int)]).length none = _; simp) Rp.here rfl rfl zqV (fun S hS => ?_)
  refine aU ?_
  refine E_stS hS rfl (xv := .ref ini (q + 1) 0 (q + 1) none) (by show AV.ref ini (q + 1) 0 ((j5 f f.Locals.length f.Locals.length).take q ++ [cq]).length none = _; rw [List.length_append, List.length_take, hcn, Nat.min_eq_left zO]; rfl) Rp.here rfl rfl zqV (fun S hS => ?_)
  refine a7 ?_
  refine And.intro (by simp [u7, a1u, r5, y8, hpb, hpc, hib, Ne.symm hpb, Ne.symm hpc, Ne.symm hib]) ?_
  rw [e1, e2] at hS
  refine aU ?_
  exact R_n (q + 1) rfl hS wF
 rw [hI] at hS
 refine s9 hw ?_
 refine a5O (σ := Unit) (fun _ => [(1, .cptr (Func.cells f) 0), (2, .sl false 1 (rd.map avB)), (3, .sl false 1 (st.map (avL 1 (avI .u8)))), (8, .ptr o8 0 0), (9, .ptr b 0 0)]) (fun _ => (b, 0, bC p f (.ref cl 0 0 f.Locals.length none) (.ref pa np 0 np none) (.ref ki 17 0 (f.Locals.length + 32) none) (a0s f f.Locals.length) (.ref ini np 0 np none) f.Result (kp) (.ref no 0 0 0 (some 12))) :: (cl, 0, flat (avI .i64) (j5 f f.Locals.length f.Locals.length)) :: (no, 0, []) :: (ini, np, flat (avI .i64) ((j5 f f.Locals.length f.Locals.length).take np)) :: (ki, 17, flat (avI .u8) (f.Locals ++ j3 16)) :: (pa, np, flat (avI .i64) ((List.range np).map fun (j : Nat) => (j : Int))) :: (o8, 0, [.nils, .nils, .int .i64 0, .nils, .bool false, .int .i64 0, .nils, .int .i64 0]) :: ([] ++ R)) (fun _ => True) ?_ (fun _ S _ hS => ?_)
 ·refine c7 ?_
  refine a8 ?_
  refine aU ?_
  by_cases hkp : 0 <= f.Keep
  ·rw [if_pos hkp] at h3
   obtain ⟨k1, k2, k3⟩ := g9 h3
   refine E_cs (t := true) (by show AV.bool (decide (f.Keep >= 0)) = _; simp [hkp]) (fun _ => ?_) (fun h => by cases h)
   refine aU ?_
   refine b7 hS rfl (.head _) (v := .ref cl 0 0 f.Locals.length none) rfl ?_
   refine aU ?_
   refine s6 rfl rfl f.Keep.toNat zO zO ?_
   refine a2K hS (d8 .i64) rfl (.tail _ (.head _)) (n := f.Keep.toNat) (fo := 0) (y := kp) (by simp [d9]) k3 (v := .int .i64 kp) rfl ?_
   refine aU ?_
   refine E_stS hS rfl (xv := .int .i64 kp) rfl Rp.here rfl rfl zqV (fun S hS => ?_)
   refine aU ?_
   exact s7 ⟨(), trivial, hS, wF⟩
  ·rw [if_neg hkp] at h3; cases h3
   refine E_cs (t := false) (by show AV.bool (decide (f.Keep >= 0)) = _; simp; omega) (fun h => by cases h) (fun _ => ?_)
   refine aU ?_
   exact s7 ⟨(), trivial, hS, wF⟩
 refine c7 ?_
 refine c7 ?_
 refine a8 ?_
 refine aU ?_
 refine a1i rd.length (fun _ : List QN => [(1, .cptr (Func.cells f) 0), (2, .sl false 1 (rd.map avB)), (3, .sl false 1 (st.map (avL 1 (avI .u8)))), (8, .ptr o8 0 0), (9, .ptr b 0 0), (110, .sl false 1 (rd.map avB))]) (fun l => (b, 0, bC p f (.ref cl 0 0 f.Locals.length none) (.ref pa np 0 np none) (.ref ki 17 0 (f.Locals.length + 32) none) (a0s f f.Locals.length) (.ref ini np 0 np none) f.Result (kp) (.ref no l.length 0 l.length (some 12))) :: (cl, 0, flat (avI .i64) (j5 f f.Locals.length f.Locals.length)) :: (no, l.length, nC l) :: (ini, np, flat (avI .i64) ((j5 f f.Locals.length f.Locals.length).take np)) :: (ki, 17, flat (avI .u8) (f.Locals ++ j3 16)) :: (pa, np, flat (avI .i64) ((List.range np).map fun (j : Nat) => (j : Int))) :: (o8, 0, [.nils, .nils, .int .i64 0, .nils, .bool false, .int .i64 0, .nils, .int .i64 0]) :: (qI l ++ R)) (fun k l => ndS p f rd st k = some (l.map QN.n) /\ ∀ q ∈ l, q.ok) [] hS ⟨rfl, nofun⟩ wF zO zD zD (fun _ => ⟨rfl, rfl, rfl, rfl⟩) (fun k l S hi hI hS => ?_) (fun l fr' S hI hS hw => ?_)
 ·obtain ⟨hI, hIo⟩ := hI
  obtain ⟨hlen, _⟩ := a1X hI
  rw [List.length_map] at hlen
  obtain ⟨_, hall⟩ := a1X h1
  obtain ⟨l1, nd, a1, a2, a3⟩ := hall k hi
  rw [hI] at a1; cases a1
  have hrk : rd[k]? = some rd[k] := List.getElem?_eq_getElem hi
  refine aU ?_
  refine g8 (esh := none) (f := avB) (ys := rd) (y := rd[k]) (n := (k : Int)) rfl rfl (by unfold j9; rw [if_pos zO]; exact hrk) ?_
  refine aU ?_
  refine z7 hS rfl (fun o13 S hS => ?_)
  refine E_stS hS rfl (xv := .agg (nX .nils (⟨10, 0, 0, 0, 0, 0, 0, 0, 0, [], (k : Int), 0⟩ : b8))) rfl Rp.here rfl rfl zqV (fun S hS => ?_)
  refine a7 ?_
  refine d7 ?_
  refine a5O (σ := QN) (fun _ => [(1, .cptr (Func.cells f) 0), (2, .sl false 1 (rd.map avB)), (3, .sl false 1 (st.map (avL 1 (avI .u8)))), (8, .ptr o8 0 0), (9, .ptr b 0 0), (110, .sl false 1 (rd.map avB)), (11, .int .i64 k), (13, .ptr o13 0 0), (112, .int .i64 k), (111, .int .i64 rd.length)]) (fun q => (o13, 0, q.cells) :: (b, 0, bC p f (.ref cl 0 0 f.Locals.length none) (.ref pa np 0 np none) (.ref ki 17 0 (f.Locals.length + 32) none) (a0s f f.Locals.length) (.ref ini np 0 np none) f.Result (kp) (.ref no l.length 0 l.length (some 12))) :: (cl, 0, flat (avI .i64) (j5 f f.Locals.length f.Locals.length)) :: (no, l.length, nC l) :: (ini, np, flat (avI .i64) ((j5 f f.Locals.length f.Locals.length).take np)) :: (ki, 17, flat (avI .u8) (f.Locals ++ j3 16)) :: (pa, np, flat (avI .i64) ((List.range np).map fun (j : Nat) => (j : Int))) :: (o8, 0, [.nils, .nils, .int .i64 0, .nils, .bool false, .int .i64 0, .nils, .int .i64 0]) :: (q.its ++ (qI l ++ R))) (fun q => q.n = nd /\ q.ok) ?_ (fun q S ⟨hq, hok⟩ hS => ?_)
  ·refine c7 ?_
   refine a8 ?_
   refine aU ?_
   unfold ndK at a2
   rw [hrk, Option.bind_some] at a2
   by_cases hb : rd[k] = true
   ·rw [if_pos hb] at a2
    obtain ⟨s, b1, a2⟩ := Option.bind_eq_some_iff.1 a2
    obtain ⟨i, b2, a2⟩ := Option.bind_eq_some_iff.1 a2
    obtain ⟨n0, b3, rfl⟩ := Option.map_eq_some_iff.1 a2
    obtain ⟨c1, c2⟩ := hst s (List.mem_of_getElem? b1)
    refine E_cs (t := true) (by show AV.bool rd[k] = _; rw [hb]) (fun _ => ?_) (fun h => by cases h)
    refine aU ?_
    refine g8 (esh := none) (f := avL 1 (avI .u8)) (ys := st) (y := s) (n := (k : Int)) rfl rfl (by unfold j9; rw [if_pos zO]; exact b1) ?_
    refine aU ?_
    have hB : NB p f cl (bC p f (.ref cl 0 0 f.Locals.length none) (.ref pa np 0 np none) (.ref ki 17 0 (f.Locals.length + 32) none) (a0s f f.Locals.length) (.ref ini np 0 np none) f.Result (kp) (.ref no l.length 0 l.length (some 12))) (j5 f f.Locals.length f.Locals.length) s (k : Int) := ⟨rfl, rfl, by show some (AV.ref cl 0 0 f.Locals.length none) = _; rw [show (j5 f f.Locals.length f.Locals.length).length = f.Locals.length by simp [j5]], by omega, by omega, c2, by omega, by omega⟩
    refine a2S (b1t (b := b) (cl := cl) hB hlk b2 b3) hS rfl (Spl.cons (Pk.there Pk.here) (Spl.cons (Pk.there Pk.here) Spl.nil)) (fun x S L' hL hS => ?_)
    obtain ⟨q, hq, hok, rfl, rfl⟩ := hL
    refine E_stS hS rfl (xv := .agg q.cells) rfl (Rp.there (Rp.there (Rp.skip c8a))) rfl QN.one zqV (fun S hS => ?_)
    refine aU ?_
    have hS2 := hS.perm (c4g (b := (cl, 0, flat (avI .i64) (j5 f f.Locals.length f.Locals.length))) (its := q.its) (o := (o13, 0, q.cells)) (t := [(no, l.length, nC l), (ini, np, flat (avI .i64) ((j5 f f.Locals.length f.Locals.length).take np)), (ki, 17, flat (avI .u8) (f.Locals ++ j3 16)), (pa, np, flat (avI .i64) ((List.range np).map fun (j : Nat) => (j : Int))), (o8, 0, [.nils, .nils, .int .i64 0, .nils, .bool false, .int .i64 0, .nils, .int .i64 0])]) (X := qI l ++ R))
    exact s7 ⟨q, ⟨hq, hok⟩, hS2, wF⟩
   ·rw [if_neg hb] at a2; cases a2
    refine E_cs (t := false) (by show AV.bool rd[k] = _; simpa using hb) (fun h => by cases h) (fun _ => ?_)
    refine aU ?_
    exact s7 ⟨⟨_, false, 0⟩, ⟨rfl, .inr rfl⟩, hS, wF⟩
  ·refine s4 ?_
   refine aU ?_
   refine b7 hS rfl (.tail _ (.head _)) (v := .ref no l.length 0 l.length (some 12)) rfl ?_
   refine aU ?_
   refine b7 hS rfl (.head _) (v := .agg q.cells) rfl ?_
   refine aU ?_
   refine c1D rfl rfl ?_
   refine aU ?_
   refine b4a (esh := some 12) (bytes := 104) (o := no) (ver := l.length) (n := l.length) (m := 1) (cs := nC l) (j := []) (ys := flat (fun q : QN => AV.agg q.cells) [q]) hS rfl (rdx := []) (u3 (f := fun q : QN => AV.agg q.cells) (esh := some 12) [q]) (Rp.there (Rp.there (Rp.there (by rw [List.append_nil]; exact Rp.here)))) (a5U l) (by rw [c1E]; exact QN.one) ⟨by omega, by omega⟩ (fun S hS => ?_)
   rw [c1E] at hS
   refine aU ?_
   refine E_stS hS rfl (xv := .ref no (l.length + 1) 0 (l.length + 1) (some 12)) rfl (Rp.there Rp.here) rfl rfl zqV (fun S hS => ?_)
   refine a7 ?_
   refine And.intro (by simp [u7, a1u, r5, y8]) ?_
   refine aE ?_
   have el : (l ++ [q]).length = l.length + 1 := by simp
   refine R_n (l ++ [q]) ⟨by rw [List.map_append]; show _ = some (List.map QN.n l ++ [q.n]); rw [hq]; exact a3, fun q' h' => by rcases List.mem_append.1 h' with h | h; exact hIo _ h; rw [List.mem_singleton.1 h]; exact hok⟩ (by rw [el, b5v, b5w, List.append_assoc]; exact hS.sub (List.sublist_cons_self _ _)) wF
 ·obtain ⟨hI, hIo⟩ := hI
  rw [h1] at hI
  refine a4W (F := [(1, .cptr (Func.cells f) 0), (2, .sl false 1 (rd.map avB)), (3, .sl false 1 (st.map (avL 1 (avI .u8)))), (8, .ptr o8 0 0), (9, .ptr b 0 0)]) (v4 hw wF) ?_
  have hcn : (j5 f f.Locals.length f.Locals.length).length = f.Locals.length := by simp [j5]
  refine a8D (o := pa) (ver := np) (o2 := b) (v2 := 0) (jx := 3) (l := ((List.range np).map fun (j : Nat) => (j : Int))) (cs2 := bC p f (.ref cl 0 0 f.Locals.length none) (.ref pa np 0 np none) (.ref ki 17 0 (f.Locals.length + 32) none) (a0s f f.Locals.length) (.ref ini np 0 np none) f.Result (kp) (.ref no l.length 0 l.length (some 12))) (d8 .i64) hS (Pk.there (Pk.there (Pk.there (Pk.there (Pk.there Pk.here))))) (by show some (AV.ref pa np 0 np none) = _; simp) Rp.here (fun S hS => ?_)
  refine a8C (o := ini) (ver := np) (o2 := b) (v2 := 0) (jx := 6) (l := ((j5 f f.Locals.length f.Locals.length).take np)) (cs2 := bC p f (.ref cl 0 0 f.Locals.length none) (.sl false (d9 none) (List.map (avI .i64) ((List.range np).map fun (j : Nat) => (j : Int)))) (.ref ki 17 0 (f.Locals.length + 32) none) (a0s f f.Locals.length) (.ref ini np 0 np none) f.Result (kp) (.ref no l.length 0 l.length (some 12))) (d8 .i64) hS (Pk.there (Pk.there (Pk.there Pk.here))) (by show some (AV.ref ini np 0 np none) = _; rw [List.length_take, hcn, Nat.min_eq_left zO]) Rp.here (fun S hS => ?_)
  refine aU ?_
  have hkl : (f.Locals ++ j3 16).length = f.Locals.length + 32 := by rw [List.length_append, r9]
  refine b7 hS rfl (.head _) (v := .agg (QG.cells ⟨⟨((List.range np).map fun (j : Nat) => (j : Int)), (f.Locals ++ j3 16), a0s f f.Locals.length, ((j5 f f.Locals.length f.Locals.length).take np), f.Result, kp, nds, 0⟩, ki, no, l⟩)) (by rw [show (QG.cells ⟨⟨((List.range np).map fun (j : Nat) => (j : Int)), (f.Locals ++ j3 16), a0s f f.Locals.length, ((j5 f f.Locals.length f.Locals.length).take np), f.Result, kp, nds, 0⟩, ki, no, l⟩) = [.sl false 1 (((List.range np).map fun (j : Nat) => (j : Int)).map (avI .i64)), .ref ki 17 0 (f.Locals.length + 32) none, .int .i64 (a0s f f.Locals.length), .sl false 1 (((j5 f f.Locals.length f.Locals.length).take np).map (avI .i64)), .bool f.Result, .int .i64 kp, .ref no l.length 0 l.length (some 12), .int .i64 0] by show [_, AV.ref ki 17 0 (f.Locals ++ j3 16).length none, _, _, _, _, _, _] = _; rw [hkl]]; rfl) ?_
  refine aU ?_
  refine E_stS hS rfl (xv := .agg (QG.cells ⟨⟨((List.range np).map fun (j : Nat) => (j : Int)), (f.Locals ++ j3 16), a0s f f.Locals.length, ((j5 f f.Locals.length f.Locals.length).take np), f.Result, kp, nds, 0⟩, ki, no, l⟩)) rfl (Rp.there (Rp.there (Rp.there (Rp.there Rp.here)))) rfl rfl zqV (fun S hS => ?_)
  refine aU ?_
  refine f7 ?_
  refine aE ?_
  exact ⟨trivial, _, f6 rfl (hS.at (.tail _ (.tail _ (.tail _ (.tail _ (.head _)))))) rfl, _, ⟨⟨⟨((List.range np).map fun (j : Nat) => (j : Int)), (f.Locals ++ j3 16), a0s f f.Locals.length, ((j5 f f.Locals.length f.Locals.length).take np), f.Result, kp, nds, 0⟩, ki, no, l⟩, rfl, ⟨(Option.some.inj hI).symm, hIo⟩, rfl, rfl⟩, hS.sub (.cons _ (.cons _ (.cons_cons _ (.cons_cons _ (.cons _ (List.Sublist.refl _))))))⟩
end
end Go.Proofs.Ytnpemocpfdgaoaa

/- build.Build: the walk, its graphs memory of their own (printed by mkW8.py). -/
namespace Go.Proofs.Ytnpemocpfdgaoaa
open Go Go.Ab
set_option maxRecDepth 20000
set_option maxHeartbeats 2000000
def gC (l : List QG) : List AV := l.flatMap fun G => G.cells
def gI (l : List QG) : List It := l.reverse.flatMap QG.its
theorem b5x {l : List QG} {G : QG} : gC (l ++ [G]) = gC l ++ G.cells := by simp [gC]
theorem b5y {l : List QG} {G : QG} : gI (l ++ [G]) = G.its ++ gI l := by simp [gI]
theorem a8L : ∀ l : List QG, (gC l).length = l.length * 8
 | [] => rfl
 | q :: l => by show (q.cells ++ gC l).length = _; rw [List.length_append, a8L l]; simp; omega
theorem c1F {G : QG} : flat (fun G : QG => AV.agg G.cells) [G] = G.cells := List.append_nil _
theorem c4j {α : Type} {its t X : List α} : List.Perm (its ++ (t ++ X)) (t ++ (its ++ X)) := by
 rw [<- List.append_assoc, <- List.append_assoc]
 exact List.Perm.append_right _ List.perm_append_comm
def GOK (l : List QG) (gs : List a9) : Prop := l.map QG.g = gs /\ ∀ G ∈ l, G.qs.map QN.n = G.g.Nodes /\ ∀ q ∈ G.qs, q.ok
section
variable {p : Program}
theorem a9r {ty : a0r} {gs : List a9} (hk : r7 1048577 p = some (some ty, 0)) (hb : ∀ f ∈ p.Funcs, f.Locals.length < 1000 /\ f.Code.length < 100000 /\ (0 <= f.Params /\ f.Params <= f.Locals.length) /\ f.Keep < f.Locals.length /\ ∀ k ∈ f.Locals, 0 <= k /\ k < 256) (hn : p.Funcs.length < 100000) (hrd : ∀ rd ∈ ty.Reached, rd.length < 100000) (hst : ∀ st ∈ ty.Stacks, ∀ s ∈ st, s.length < 100000 /\ ∀ k ∈ s, 0 <= k /\ k < 256) (hg : gsS p ty p.Funcs.length = some gs) :
  Tri Try.prog 13 [Program.av p] [] (fun x L' => ∃ (l : List QG) (gl : Nat), GOK l gs /\ x = .tup [.agg [.ref gl l.length 0 l.length (some 8)], .int .i64 0] /\ L' = (gl, l.length, gC l) :: gI l) := by
 refine j7 mixed c3p zS [1, 2, 6] (fun R S hS => ?_)
 refine aU ?_
 refine a3J hS rfl (xv := Program.av p) rfl rfl (fun pb S hS => ?_)
 refine aU ?_
 refine z7 hS rfl (fun o2 S hS => ?_)
 refine aS ?_
 refine a7 ?_
 refine b2t 1 hS (Pk.there Pk.here) (by exact Program.enc.blw p 0) rfl (fun S hS => ?_)
 refine aU ?_
 refine a0x (a1z hk) rfl (f9 ⟨Program.enc.blw p 0, trivial⟩) (a0i ⟨m6 (a0r.enc.blw ty 0), rfl, trivial⟩) ?_
 refine aU ?_
 refine E_cs (t := false) rfl (fun h => by cases h) (fun _ => ?_)
 refine g5 ?_
 refine d7 ?_
 refine aQ ?_
 refine aS ?_
 refine z7 hS rfl (fun o6 S hS => ?_)
 refine a7 ?_
 refine a9d 0 (some 8) (Lf := fun o' => (o6, 0, [.ref o' 0 0 0 (some 8)]) :: (o2, 0, [.nils]) :: ([] ++ R)) hS (fun o' => Rp.here) rfl (fun gl S hS => ?_)
 refine c7 ?_
 refine c7 ?_
 refine a8 ?_
 refine aU ?_
 refine a1i p.Funcs.length (fun _ : List QG => [(1, .cptr (Program.cells p) 0), (2, .ptr o2 0 0), (4, .cptr (a0r.cells ty) 0), (6, .ptr o6 0 0)]) (fun l => (gl, l.length, gC l) :: (o6, 0, [.ref gl l.length 0 l.length (some 8)]) :: (o2, 0, [.nils]) :: (gI l ++ R)) (fun k l => gsS p ty k = some (l.map QG.g) /\ ∀ G ∈ l, G.qs.map QN.n = G.g.Nodes /\ ∀ q ∈ G.qs, q.ok) [] hS ⟨rfl, nofun⟩ wF zO zD zD (fun _ => ⟨rfl, rfl, rfl, rfl⟩) (fun k l S hi hI hS => ?_) (fun l fr' S hI hS hw => ?_)
 ·obtain ⟨hI, hI2⟩ := hI
  obtain ⟨hlen, _⟩ := a2G hI
  rw [List.length_map] at hlen
  obtain ⟨_, hall⟩ := a2G hg
  obtain ⟨l1, f, rd, st, g, a1, a2, a3, a4, a5, a6⟩ := hall k hi
  rw [hI] at a1; cases a1
  obtain ⟨b1, b2, b3, b4, b5⟩ := hb f (List.mem_of_getElem? a2)
  refine aU ?_
  refine s4 ?_
  refine aU ?_
  refine b7 hS rfl (.tail _ (.head _)) (v := .ref gl l.length 0 l.length (some 8)) rfl ?_
  refine aU ?_
  refine g8 (esh := some 5) (f := Func.av) (ys := p.Funcs) (y := f) (n := (k : Int)) rfl rfl (by unfold j9; rw [if_pos zO]; exact a2) ?_
  refine aU ?_
  refine g8 (esh := none) (f := avL 1 avB) (ys := ty.Reached) (y := rd) (n := (k : Int)) rfl rfl (by unfold j9; rw [if_pos zO]; exact a3) ?_
  refine aU ?_
  refine g8 (esh := none) (f := avL 1 (avL 1 (avI .u8))) (ys := ty.Stacks) (y := st) (n := (k : Int)) rfl rfl (by unfold j9; rw [if_pos zO]; exact a4) ?_
  refine aU ?_
  have hm1 := hS.at (.tail _ (.head _))
  refine a2S (a9q b1 b2 b3 b4 b5 (hrd rd (List.mem_of_getElem? a3)) (hst st (List.mem_of_getElem? a4)) a5) hS rfl Spl.nil (fun x S L' hL hS => ?_)
  obtain ⟨G, rfl, hqs, rfl, rfl⟩ := hL
  have hm2 := hS.at (List.mem_append_right _ (.tail _ (.head _)))
  refine aU ?_
  refine b4a (esh := some 8) (bytes := 128) (o := gl) (ver := l.length) (n := l.length) (m := 1) (cs := gC l) (j := []) (ys := flat (fun G : QG => AV.agg G.cells) [G]) hS rfl (rdx := []) (u3 (f := fun G : QG => AV.agg G.cells) (esh := some 8) [G]) (Rp.skip (by rw [List.append_nil]; exact Rp.here)) (a8L l) (by rw [c1F]; rfl) ⟨by omega, by omega⟩ (fun S hS => ?_)
  rw [c1F] at hS
  refine aU ?_
  refine E_stS hS rfl (xv := .ref gl (l.length + 1) 0 (l.length + 1) (some 8)) rfl (Rp.skip (Rp.there Rp.here)) rfl rfl zqV (fun S hS => ?_)
  refine a7 ?_
  refine And.intro ⟨⟨rfl, fun x hx => by rw [List.mem_singleton.1 hx]; exact hm2.trans hm1.symm⟩, by simp [u7, a1u, r5, y8]⟩ ?_
  refine aE ?_
  have el : (l ++ [G]).length = l.length + 1 := by simp
  have hS2 := hS.perm (c4j (its := G.its) (t := [(gl, l.length + 1, gC l ++ G.cells), (o6, 0, [.ref gl (l.length + 1) 0 (l.length + 1) (some 8)]), (o2, 0, [.nils])]) (X := gI l ++ R))
  exact R_n (l ++ [G]) ⟨by rw [List.map_append]; exact a6, fun G' hG' => by
   rcases List.mem_append.1 hG' with h | h
   ·exact hI2 _ h
   ·rw [List.mem_singleton.1 h]; exact hqs⟩ (by rw [el, b5x, b5y, List.append_assoc]; exact hS2) wF
 ·obtain ⟨hI, hI2⟩ := hI
  rw [hg] at hI
  refine a4W (F := [(2, .ptr o2 0 0), (6, .ptr o6 0 0)]) (v4 hw wF) ?_
  refine aU ?_
  refine b7 hS rfl (.tail _ (.head _)) (v := .agg [.ref gl l.length 0 l.length (some 8)]) rfl ?_
  refine aU ?_
  refine E_stS hS rfl (xv := .agg [.ref gl l.length 0 l.length (some 8)]) rfl (Rp.there (Rp.there Rp.here)) rfl rfl zqV (fun S hS => ?_)
  refine aU ?_
  refine f7 ?_
  refine aE ?_
  exact ⟨trivial, _, a4X rfl (hS.at (.tail _ (.tail _ (.head _)))) rfl rfl, _, ⟨l, gl, ⟨(Option.some.inj hI).symm, hI2⟩, rfl, rfl⟩, hS.sub (.cons_cons _ (.cons _ (.cons _ (List.Sublist.refl _))))⟩
end
end Go.Proofs.Ytnpemocpfdgaoaa

/- BuildAgain: graphs whose memory is apart: where their cells lie, what they are as they are looked at. -/
namespace Go.Proofs.Ytnpemocpfdgaoaa
open Go Go.Ab
set_option maxRecDepth 20000
theorem a1r {α : Type} : ∀ {l : List α} {i : Nat} {x : α}, l[i]? = some x -> l = l.take i ++ x :: l.drop (i + 1) /\ (l.take i).length = i /\ ∀ y, l.set i y = l.take i ++ y :: l.drop (i + 1)
 | [], i, x, h => by simp at h
 | a :: r, 0, x, h => by simp at h; subst h; exact ⟨rfl, rfl, fun _ => rfl⟩
 | a :: r, i + 1, x, h => by
   obtain ⟨h1, h2, h3⟩ := a1r (l := r) (i := i) (by simpa using h)
   refine ⟨by show a :: r = a :: (r.take i ++ x :: r.drop (i + 1)); rw [<- h1], by simp [h2], fun y => by show a :: r.set i y = _; rw [h3 y]; rfl⟩
section
variable {l : List QG} {i k c : Nat} {G G' : QG} {q q' : QN} {qs : List QN} {x : AV}
theorem b1u {a b : List QG} : gC (a ++ b) = gC a ++ gC b := by simp [gC]
theorem a7t {a b : List QN} : nC (a ++ b) = nC a ++ nC b := by simp [nC]
theorem a9s (h : l[i]? = some G) (hx : G.cells[c]? = some x) : w9 none (gC l) (0 + i * d9 (some 8) + c) = some x := by
 obtain ⟨h1, h2, _⟩ := a1r h
 rw [h1, b1u]
 exact vT (A := gC (l.take i)) (l := G.cells) (J := gC (l.drop (i + 1))) (m := 8) (n := i) (by rw [a8L, h2]) hx
theorem c1G (h : qs[k]? = some q) (hx : q.cells[c]? = some x) : w9 none (nC qs) (0 + k * d9 (some 12) + c) = some x := by
 obtain ⟨h1, h2, _⟩ := a1r h
 rw [h1, a7t]
 exact vT (A := nC (qs.take k)) (l := q.cells) (J := nC (qs.drop (k + 1))) (m := 12) (n := k) (by rw [a5U, h2]) hx
theorem c4k (h : qs[k]? = some q) (hc : c < 12) (hx : x.cells = [x]) (hq : q.cells.set c x = q'.cells) : splice (nC qs) (0 + k * d9 (some 12) + c) x.cells = nC (qs.set k q') := by
 obtain ⟨h1, h2, h3⟩ := a1r h
 rw [h3 q']
 conv => lhs; rw [h1]
 rw [a7t, a7t]
 have := spT (A := nC (qs.take k)) (l := q.cells) (J := nC (qs.drop (k + 1))) (m := 12) (n := k) (k := c) (x := x) (by rw [a5U, h2]) hc hx
 rw [hq] at this
 exact this
theorem b5z (h : qs[k]? = some q) (hq : q.cells = q'.cells) : nC (qs.set k q') = nC qs := by
 obtain ⟨h1, h2, h3⟩ := a1r h
 rw [h3 q']
 conv => rhs; rw [h1]
 rw [a7t, a7t]
 show _ ++ (q'.cells ++ _) = _ ++ (q.cells ++ _)
 rw [hq]
theorem a8b (h : l[i]? = some G) (hq : G.cells = G'.cells) : gC (l.set i G') = gC l := by
 obtain ⟨h1, h2, h3⟩ := a1r h
 rw [h3 G']
 conv => rhs; rw [h1]
 rw [b1u, b1u]
 show _ ++ (G'.cells ++ _) = _ ++ (G.cells ++ _)
 rw [hq]
theorem a8M (h : qs[k]? = some q) : ∃ A B, qI qs = A ++ (q.its ++ B) /\ ∀ q', qI (qs.set k q') = A ++ (q'.its ++ B) := by
 obtain ⟨h1, h2, h3⟩ := a1r h
 refine ⟨qI (qs.drop (k + 1)), qI (qs.take k), ?_, fun q' => ?_⟩
 ·conv => lhs; rw [h1]
  simp [qI]
 ·rw [h3 q']; simp [qI]
theorem a3u (h : l[i]? = some G) : ∃ A B, gI l = A ++ (G.its ++ B) /\ ∀ G', gI (l.set i G') = A ++ (G'.its ++ B) := by
 obtain ⟨h1, h2, h3⟩ := a1r h
 refine ⟨gI (l.drop (i + 1)), gI (l.take i), ?_, fun q' => ?_⟩
 ·conv => lhs; rw [h1]
  simp [gI]
 ·rw [h3 q']; simp [gI]
theorem c4l {R : List It} {qs' : List QN} (h : l[i]? = some G) (h1 : qI qs' = qI G.qs) (h2 : qs'.length = G.qs.length) : Rp (gI l ++ R) (G.no, G.qs.length, nC G.qs) (G.no, G.qs.length, nC qs') (gI (l.set i { G with qs := qs' }) ++ R) := by
 obtain ⟨A, B, h3, h4⟩ := a3u h
 refine ⟨rfl, A, (G.ki, 17, flat (avI .u8) G.g.Kinds) :: (qI G.qs ++ (B ++ R)), ?_, ?_⟩
 ·rw [h3]; simp [QG.its]
 ·rw [h4]; simp [QG.its, h1, h2]
theorem c4m {R : List It} {ks : List Int} (h : l[i]? = some G) : Rp (gI l ++ R) (G.ki, 17, flat (avI .u8) G.g.Kinds) (G.ki, 17, flat (avI .u8) ks) (gI (l.set i { G with g := { G.g with Kinds := ks } }) ++ R) := by
 obtain ⟨A, B, h3, h4⟩ := a3u h
 refine ⟨rfl, A ++ [(G.no, G.qs.length, nC G.qs)], qI G.qs ++ (B ++ R), ?_, ?_⟩
 ·rw [h3]; simp [QG.its]
 ·rw [h4]; simp [QG.its]
theorem c4n {R : List It} {n : b8} {a : Nat} {w : List Int} (h : l[i]? = some G) (hk : G.qs[k]? = some ⟨n, true, a⟩) (hw : w.length = n.Args.length) :
  Rp (gI l ++ R) (a, n.Args.length, flat (avI .i64) n.Args) (a, n.Args.length, flat (avI .i64) w) (gI (l.set i { G with qs := G.qs.set k ⟨{ n with Args := w }, true, a⟩ }) ++ R) := by
 obtain ⟨A, B, h3, h4⟩ := a3u h
 obtain ⟨A2, B2, h5, h6⟩ := a8M hk
 have e : nC (G.qs.set k ⟨{ n with Args := w }, true, a⟩) = nC G.qs := b5z hk (by simp [QN.cells, QN.arg, nX, hw])
 refine ⟨rfl, A ++ (G.no, G.qs.length, nC G.qs) :: (G.ki, 17, flat (avI .u8) G.g.Kinds) :: A2, B2 ++ (B ++ R), ?_, ?_⟩
 ·rw [h3]; simp [QG.its, h5, QN.its]
 ·rw [h4]; simp [QG.its, h6, QN.its, e, hw]
theorem b3k {R : List It} (h : l[i]? = some G) : (G.no, G.qs.length, nC G.qs) ∈ gI l ++ R := by
 obtain ⟨A, B, h3, h4⟩ := a3u h
 rw [h3]; simp [QG.its]
theorem c1H {R : List It} (h : l[i]? = some G) : (G.ki, 17, flat (avI .u8) G.g.Kinds) ∈ gI l ++ R := by
 obtain ⟨A, B, h3, h4⟩ := a3u h
 rw [h3]; simp [QG.its]
end
def QN.fa : QN -> AV
 | ⟨n, true, _⟩ => .sl false 1 (n.Args.map (avI .i64))
 | ⟨_, false, _⟩ => .nils
abbrev QN.fc (q : QN) : List AV := nX q.fa q.n
theorem QN.encf : Enc (fun q : QN => AV.agg q.fc) (some 12) := by
 refine ⟨fun _ => rfl, fun q => ?_, fun _ => rfl, fun q n => ?_⟩
 ·obtain ⟨n, k, a⟩ := q; cases k <;> rfl
 ·obtain ⟨n, k, a⟩ := q; cases k
  ·rfl
  ·exact f9 ⟨rfl, rfl, rfl, rfl, rfl, rfl, rfl, rfl, rfl, (v6 (d8 .i64) 1).blw n.Args _, rfl, rfl, trivial⟩
abbrev QG.fc (G : QG) : List AV := [.sl false 1 (G.g.Params.map (avI .i64)), .sl false 1 (G.g.Kinds.map (avI .u8)), .int .i64 G.g.Cells, .sl false 1 (G.g.Init.map (avI .i64)), .bool G.g.Result, .int .i64 G.g.Keep, .sl false 12 (G.qs.map fun q => AV.agg q.fc), .int .i64 G.g.Entry]
theorem QG.encf : Enc (fun G : QG => AV.agg G.fc) (some 8) := ⟨fun _ => rfl, fun _ => rfl, fun _ => rfl, fun G n => f9 ⟨(v6 (d8 .i64) 1).blw G.g.Params n, (v6 (d8 .u8) 1).blw G.g.Kinds n, rfl, (v6 (d8 .i64) 1).blw G.g.Init n, rfl, rfl, (v6 QN.encf 12).blw G.qs n, rfl, trivial⟩⟩
section
variable {S : List Ob} {L : List It} {k : Nat}
theorem fzI {a b} : frz 0 S k (.int a b) = .int a b := a4G rfl
theorem c8b (hS : Ab.Sep S L) {q : QN} (h : ∀ x ∈ q.its, x ∈ L) : q.cells.map (frz 0 S (k + 1)) = q.fc := by
 obtain ⟨n, b, a⟩ := q
 cases b
 ·exact a3G (cs := nX .nils n) rfl
 ·have e := b0J (d8 .i64) (S := S) (k := k) (o := a) (ver := n.Args.length) (l := n.Args) (j := []) rfl rfl (by rw [List.append_nil]; exact hS.at (h _ (.head _)))
  show (nX (.ref a n.Args.length 0 n.Args.length none) n).map (frz 0 S (k + 1)) = nX (.sl false 1 (n.Args.map (avI .i64))) n
  simp only [nX, List.map_cons, List.map_nil, fzI, e]
  rfl
theorem c1I (hS : Ab.Sep S L) : ∀ {qs : List QN}, (∀ q ∈ qs, ∀ x ∈ q.its, x ∈ L) -> (nC qs).map (frz 0 S (k + 1)) = flat (fun q : QN => AV.agg q.fc) qs
 | [], _ => rfl
 | q :: qs, h => by
   show (q.cells ++ nC qs).map _ = q.fc ++ flat (fun q : QN => AV.agg q.fc) qs
   rw [List.map_append, c8b hS (h q (.head _)), c1I hS fun q' hq => h q' (.tail _ hq)]
theorem c4o (hS : Ab.Sep S L) {qs : List QN} {no : Nat} (hm : (no, qs.length, nC qs) ∈ L) (h : ∀ q ∈ qs, ∀ x ∈ q.its, x ∈ L) : frz 0 S (k + 2) (.ref no qs.length 0 qs.length (some 12)) = .sl false 12 (qs.map fun q => AV.agg q.fc) := by
 have ho := hS.at hm
 have hb : (AV.ref no qs.length 0 qs.length (some 12)).blw 0 = false := by simp [AV.blw]
 have e1 := c1I (k := k) hS h
 have e2 := QN.encf.elems qs
 have e3 := QN.encf.all qs
 generalize hF : frz 0 S (k + 1) = Fz at e1
 unfold frz
 rw [hF, if_neg (by rw [hb]; decide)]
 simp only [ho, List.drop_zero, e1, e2]
 rw [if_pos ⟨trivial, by rw [a5U]; simp [d9], e3⟩]
 rfl
theorem c1J (hS : Ab.Sep S L) {G : QG} (h : ∀ x ∈ G.its, x ∈ L) : G.cells.map (frz 0 S (k + 2)) = G.fc := by
 have e1 := c4o (k := k) hS (qs := G.qs) (no := G.no) (h _ (.head _)) (fun q hq x hx => h x (.tail _ (.tail _ (List.mem_flatMap.2 ⟨q, List.mem_reverse.2 hq, hx⟩))))
 have e2 := b0J (d8 .u8) (S := S) (k := k + 1) (o := G.ki) (ver := 17) (l := G.g.Kinds) (j := []) rfl rfl (by rw [List.append_nil]; exact hS.at (h _ (.tail _ (.head _))))
 have e3 : frz 0 S (k + 2) (.sl false 1 (G.g.Params.map (avI .i64))) = _ := a4G ((v6 (d8 .i64) 1).blw G.g.Params 0)
 have e4 : frz 0 S (k + 2) (.sl false 1 (G.g.Init.map (avI .i64))) = _ := a4G ((v6 (d8 .i64) 1).blw G.g.Init 0)
 have e5 : frz 0 S (k + 2) (.bool G.g.Result) = _ := a4G rfl
 simp only [List.map_cons, List.map_nil, fzI, e1, e2, e3, e4, e5]
 rfl
theorem c1K (hS : Ab.Sep S L) : ∀ {l : List QG}, (∀ G ∈ l, ∀ x ∈ G.its, x ∈ L) -> (gC l).map (frz 0 S (k + 2)) = flat (fun G : QG => AV.agg G.fc) l
 | [], _ => rfl
 | G :: l, h => by
   show (G.cells ++ gC l).map _ = G.fc ++ flat (fun G : QG => AV.agg G.fc) l
   rw [List.map_append, c1J hS (h G (.head _)), c1K hS fun q' hq => h q' (.tail _ hq)]
theorem c4p (hS : Ab.Sep S L) {l : List QG} {gl : Nat} (hm : (gl, l.length, gC l) ∈ L) (h : ∀ G ∈ l, ∀ x ∈ G.its, x ∈ L) : frz 0 S (k + 3) (.ref gl l.length 0 l.length (some 8)) = .sl false 8 (l.map fun G => AV.agg G.fc) := by
 have ho := hS.at hm
 have hb : (AV.ref gl l.length 0 l.length (some 8)).blw 0 = false := by simp [AV.blw]
 have e1 := c1K (k := k) hS h
 have e2 := QG.encf.elems l
 have e3 := QG.encf.all l
 generalize hF : frz 0 S (k + 2) = Fz at e1
 unfold frz
 rw [hF, if_neg (by rw [hb]; decide)]
 simp only [ho, List.drop_zero, e1, e2]
 rw [if_pos ⟨trivial, by rw [a8L]; simp [d9], e3⟩]
 rfl
theorem awN {q : QN} (hq : q.ok) : awL q.fc (b8.cells q.n) := by
 obtain ⟨n, b, a⟩ := q
 cases b
 ·refine ⟨.refl _, .refl _, .refl _, .refl _, .refl _, .refl _, .refl _, .refl _, .refl _, ?_, .refl _, .refl _, trivial⟩
  have h : n.Args = [] := hq.resolve_left (fun h => by cases h)
  show AVw .nils (.sl false 1 (n.Args.map (avI .i64)))
  rw [h]
  exact .nil
 ·exact ⟨.refl _, .refl _, .refl _, .refl _, .refl _, .refl _, .refl _, .refl _, .refl _, .refl _, .refl _, .refl _, trivial⟩
theorem awS {α : Type} {f g : α -> List AV} {sz : Nat} {l : List α} (h : ∀ x ∈ l, awL (f x) (g x)) : AVw (.sl false sz (l.map fun x => AV.agg (f x))) (.sl false sz (l.map fun x => AV.agg (g x))) := by
 refine .sl id zS (fun i h1 h2 => ?_) (fun i h1 h2 j h3 h4 => ?_)
 ·simp only [List.getElem_map]
  exact a0J (h _ (List.getElem_mem (by simpa using h1)))
 ·have h0 : i < l.length := by simpa using h1
  have h3' : j < (f l[i]).length := by simp only [List.getElem_map] at h3; exact h3
  have h4' : j < (g l[i]).length := by simp only [List.getElem_map] at h4; exact h4
  have e := a1w (h l[i] (List.getElem_mem h0)) j h3' h4'
  simp only [List.getElem_map]
  exact e
theorem awG {G : QG} (h : G.qs.map QN.n = G.g.Nodes /\ ∀ q ∈ G.qs, q.ok) : awL G.fc (a9.cells G.g) := by
 refine ⟨.refl _, .refl _, .refl _, .refl _, .refl _, .refl _, ?_, .refl _, trivial⟩
 rw [<- h.1, List.map_map]
 exact awS (g := fun q => b8.cells q.n) fun q hq => awN (h.2 q hq)
theorem c1L (hS : Ab.Sep S L) {l : List QG} {gs : List a9} {gl : Nat} (hG : GOK l gs) (hm : (gl, l.length, gC l) ∈ L) (h : ∀ G ∈ l, ∀ x ∈ G.its, x ∈ L) : AVw (frz 0 S 4 (.agg [.ref gl l.length 0 l.length (some 8)])) (c9.av ⟨gs⟩) := by
 have e1 := c4p (k := 0) hS hm h
 have hb : (AV.agg [.ref gl l.length 0 l.length (some 8)]).blw 0 = false := by simp [AV.blw, a0S]
 generalize hF : frz 0 S (0 + 3) = Fz at e1
 have e2 : frz 0 S 4 (.agg [.ref gl l.length 0 l.length (some 8)]) = .agg [.sl false 8 (l.map fun G => AV.agg G.fc)] := by
  unfold frz
  rw [hF, if_neg (by rw [hb]; decide)]
  simp only [List.map_cons, List.map_nil, e1]
 rw [e2]
 refine .aggL ⟨?_, trivial⟩
 rw [<- hG.1, List.map_map]
 exact awS (g := fun G => a9.cells G.g) fun G hGl => awG (hG.2 G hGl)
theorem b5A {l : List QG} : ∀ G ∈ l, ∀ x ∈ G.its, x ∈ gI l := fun G hG x hx => List.mem_flatMap.2 ⟨G, List.mem_reverse.2 hG, hx⟩
end
end Go.Proofs.Ytnpemocpfdgaoaa

