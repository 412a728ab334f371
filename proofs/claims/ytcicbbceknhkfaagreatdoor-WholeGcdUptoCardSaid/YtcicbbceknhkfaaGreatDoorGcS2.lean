/- WholeGcd: the program as the document means it: its loop by an invariant. -/
import Derived.Test.YtcicbbceknhkfaaGreatDoorGcC
import Derived.Test.YtcicbbceknhkfaaGreatDoorWlL7
namespace Go.Proofs.YtcicbbceknhkfaaGreatDoor
set_option linter.constructorNameAsVariable false
set_option linter.unusedSimpArgs false
set_option linter.unusedVariables false
open Go Go.Ab Go.RowKit
set_option maxRecDepth 100000
set_option linter.unusedVariables false
def fcO : Option (Nat × List RS × FC) → FC
  | some (_, _, x) => x
  | none => .skip
def fstF : FC → FC
  | .seq a _ => a
  | x => x
def bodyF : FC → FC
  | .block _ (.loop b) => b
  | x => x
noncomputable abbrev callS := runR Tryz.prog pvZ (codeT tabL) (ovA ovL []) 200
noncomputable abbrev rdS := rdK pvZ Tryz.prog
abbrev X : SE := .var 0
abbrev Y : SE := .var 1
def stN (k : IntKind) (v : SE) : Nat → SE
  | 0 => v
  | i + 1 => .bop .add k (stN k v i) (.num 1)
abbrev tapeV : XV := .sl false 1 [.sym .u64 (.var 0), .sym .u64 (.var 1)]
abbrev argsS : List XV := [progV, tapeV, .int .i64 1048576]
def fnL : List XV := [.int .i64 0, .sl false 1 [.int .u8 0, .int .u8 0, .int .u8 0], .bool false, .int .i64 (-1), .sl false 3 [ins 28 0, ins 3 0, ins 28 0, ins 3 1, ins 2 1, ins 22 15, ins 2 0, ins 2 1, ins 11 0, ins 3 2, ins 2 1, ins 3 0, ins 2 2, ins 3 1, ins 21 4, ins 2 0, ins 29 0, ins 24 0]]
def resC : Nat × Nat × List XV := (1, 0, [.nils, .int .i64 0, .int .u64 0, .int .i64 0, .int .i64 0, .int .i64 0, .int .i64 0])
/-- At the call. -/
def pI : Pat := ⟨[(2, .int .i64 1048576), (3, .ptr 0 0 0), (6, .ptr 1 0 0), (7, .int .i64 0), (10, .ptr 351 0 0)], 352, [(0, 0, [.sl false 5 [.agg fnL]]), resC,
  (349, 1, [.sym .u64 (.var 0), .sym .u64 (.var 1)]),
  (350, 0, [.ref 349 1 0 2 none, .nils]),
  (351, 0, [.ptr 350 0 0, .fn (.func 19) [] [.ptr 0 0 0], .int .i64 0, .int .u64 0, .int .i64 0, .int .i64 0, .int .i64 0, .int .i64 0, .nils, .nils, .int .i64 0])]⟩
/-- Ahead of the loop. -/
def pJ : Pat := ⟨[(0, .ptr 351 0 0), (1, .int .i64 1048576)], 357, [(0, 0, [.sl false 5 [.agg fnL]]), resC,
  (349, 1, [.sym .u64 (.var 0), .sym .u64 (.var 1)]),
  (350, 0, [.ref 349 1 0 2 none, .nils]),
  (351, 0, [.ptr 350 0 0, .fn (.func 19) [] [.ptr 0 0 0], .int .i64 0, .int .u64 0, .int .i64 0, .int .i64 1, .int .i64 0, .int .i64 0, .ref 354 0 0 1 none, .nils, .int .i64 0]),
  (352, 0, [.iface 95 (.ptr 356 0 0), .int .i64 0, .nils, .int .u64 0]),
  (354, 0, [.ptr 352 0 0]),
  (355, 0, [.int .u64 0, .int .u64 0, .int .u64 0]),
  (356, 0, [.ptr 0 0 0, .cptr fnL 0, .ref 355 0 0 3 none, .nils, .int .i64 0, .int .i64 0])]⟩
/-- In the loop: the two numbers, what was last reckoned, the tape's two, the steps. -/
def pA : Pat := ⟨[(0, .ptr 351 0 0), (1, .int .i64 1048576)], 370, [(0, 0, [.sl false 5 [.agg fnL]]), resC,
  (349, 1, [.sym .u64 (.var 3), .sym .u64 (.var 4)]),
  (350, 0, [.ref 349 1 2 0 none, .ref 359 1 0 2 (some 2)]),
  (351, 0, [.ptr 350 0 0, .fn (.func 19) [] [.ptr 0 0 0], .int .i64 0, .int .u64 0, .sym .i64 (.var 5), .int .i64 1, .int .i64 0, .int .i64 0, .ref 354 0 0 1 none, .nils, .int .i64 0]),
  (352, 0, [.iface 95 (.ptr 356 0 0), .int .i64 0, .nils, .int .u64 0]),
  (354, 0, [.ptr 352 0 0]),
  (355, 0, [.sym .u64 (.var 0), .sym .u64 (.var 1), .sym .u64 (.var 2)]),
  (356, 0, [.ptr 0 0 0, .cptr fnL 0, .ref 355 0 0 3 none, .ref 361 1 0 0 none, .int .i64 4, .int .i64 0]),
  (359, 1, [.int .i64 2, .sym .u64 (.var 3), .int .i64 2, .sym .u64 (.var 4)]),
  (361, 1, [.sym .u64 (.var 1)])]⟩
def sI : Nat → SE
  | 0 => .var 0 | 1 => .var 1 | 2 => .num 0 | 3 => .var 0 | 4 => .var 1 | _ => .num 4
def sA : Nat → SE
  | 0 => Y | 1 => .bop .rem .u64 X Y | 2 => .bop .rem .u64 X Y | 3 => .var 3 | 4 => .var 4 | _ => stN .i64 (.var 5) 11
def fsSt : List (SE × SE) := (List.range 12).map fun i => (.bop .eql .i64 (stN .i64 (.var 5) i) (.num 1048576), .num 0)
def fsA : List (SE × SE) := (.bop .neq .u64 Y (.num 0), .num 1) :: (.bop .eql .u64 Y (.num 0), .num 0) :: (.bop .neq .i64 (.cv .i64 Y) (.num 0), .num 1) :: (.bop .eql .i64 (.cv .i64 Y) (.num 0), .num 0) :: (.bop .eql .i64 (.cv .i64 Y) (.num (-1)), .num 0) :: (.cv .u64 (.bop .rem .i64 (.cv .i64 X) (.cv .i64 Y)), .bop .rem .u64 X Y) :: fsSt
def fsB : List (SE × SE) := (.bop .eql .u64 Y (.num 0), .num 1) :: fsSt
def resS : XV := .tup [.agg [.sl false 2 [.agg [.int .i64 2, .sym .u64 (.var 3)], .agg [.int .i64 2, .sym .u64 (.var 4)], .agg [.int .i64 1, .sym .u64 (.var 0)]], .int .i64 1, .int .u64 0, .sym .i64 (stN .i64 (.var 5) 5), .int .i64 1, .int .i64 0, .int .i64 0], .int .i64 0]
abbrev b21 : FC := bodyF (tlF 1 (fcO c21.1))
noncomputable abbrev exS := exR Tryz.prog callS rdS
theorem code11 : codeT tabL 11 = some (64, [(6, some (some 7)), (7, none)], fcO c11.1) := by kernel_rfl
theorem code21 : codeT tabL 21 = some (46, [], fcO c21.1) := by kernel_rfl
theorem cut11 : fcO c11.1 = seqs (hdF 4 (fcO c11.1)) (.seq (fstF (tlF 4 (fcO c11.1))) (.seq (.reg [⟨some 35, none, .op (.mv (.t 10))⟩, ⟨some 36, none, .op (.mv (.t 2))⟩, ⟨some 37, none, .call 21 [.t 35, .t 36]⟩] []) (tlF 6 (fcO c11.1)))) := by kernel_rfl
theorem cut21 : fcO c21.1 = seqs [] (.seq (fstF (fcO c21.1)) (.block 0 (.loop b21))) := by kernel_rfl
theorem e11 : chkR 0 pI SE.var (exs exS (hdF 4 (fcO c11.1) ++ [fstF (tlF 4 (fcO c11.1))]) (XF.ofL argsS .nil 0) ⟨0, .e, ⟨[], .e, 1000000000, false, 0⟩⟩) = true := by kernel_rfl
theorem e21 : chkR 352 pJ SE.var (exs exS ([] ++ [fstF (fcO c21.1)]) (XF.ofL [.ptr 351 0 0, .int .i64 1048576] .nil 0) (pI.H [])) = true := by kernel_rfl
theorem eI : (match iterX (exS b21) 4 (frS pJ.l) (pJ.H []) with | some (F, H) => chkS 352 pA sI F H | none => false) = true := by kernel_rfl
theorem eA : stepOK 352 (exS b21) 11 pA fsA sA = true := by kernel_rfl
def F11 : XF := (((frS pI.l).set 35 (.ptr 351 0 0)).set 36 (.int .i64 1048576)).set 37 (.tup [])
def endOK (res : XV) (ts : List RS) : XC → Bool
  | some (.ret, F2, H2) => (match retX F2 H2 ts with
    | some v => (match fzX 20 H2 v with | some v' => sameV v' res | none => false)
    | none => false)
  | _ => false
theorem eB : (match loopX (exS b21) 7 (frS pA.l) (pA.H fsB) with | some (.exit i, F, H) => Nat.beq i 0 && endOK resS [(6, some (some 7)), (7, none)] (exS (tlF 6 (fcO c11.1)) F11 H) | _ => false) = true := by kernel_rfl
end Go.Proofs.YtcicbbceknhkfaaGreatDoor
/- WholeGcd: what the program means, joined. -/
namespace Go.Proofs.YtcicbbceknhkfaaGreatDoor
set_option linter.constructorNameAsVariable false
set_option linter.unusedSimpArgs false
set_option linter.unusedVariables false
open Go Go.Ab Go.RowKit
set_option linter.unusedVariables false
set_option maxRecDepth 100000
theorem callS_ok (ρ : Env) : CallOK ρ Tryz.prog callS := run_ok (fs := []) (ms := []) trivial ρ nofun
theorem rdS_ok (ρ : Env) : RdOK ρ Tryz.prog rdS := rdK_ok pvZ_ok
/-- The states at the loop's head. -/
def ρS (ρ : Env) : Nat → Env
  | 0 => ρ.sb sI
  | i + 1 => (ρS ρ i).sb sA
theorem ρS_t (ρ : Env) : ∀ i, (ρS ρ i).t = ρ.t ∧ (ρS ρ i).φ = ρ.φ ∧ (ρS ρ i).N = ρ.N
  | 0 => ⟨rfl, rfl, rfl⟩
  | i + 1 => ρS_t ρ i
theorem fm_cl {l : List (Nat × XV)} {ρ ρ' : Env} (h : ∀ q ∈ l, q.2.av ρ = q.2.av ρ') : fm ρ (frS l) = fm ρ' (frS l) := by
  funext t
  simp only [fm, frS_at]
  split
  · rename_i q e
    exact h q (List.mem_of_find?_eq_some e)
  · rfl
theorem pI_cl (ρ ρ' : Env) : fm ρ (frS pI.l) = fm ρ' (frS pI.l) := fm_cl (by
  intro q hq
  simp only [pI, List.mem_cons, List.mem_nil_iff, or_false] at hq
  rcases hq with rfl | rfl | rfl | rfl | rfl <;> rfl)
theorem pI_10 (ρ : Env) : fm ρ (frS pI.l) 10 = .ptr 351 0 0 := by
  show XV.av ρ (XF.at (frS pI.l) 10) = _
  rw [show XF.at (frS pI.l) 10 = .ptr 351 0 0 by kernel_rfl]; rfl
theorem pI_2 (ρ : Env) : fm ρ (frS pI.l) 2 = .int .i64 1048576 := by
  show XV.av ρ (XF.at (frS pI.l) 2) = _
  rw [show XF.at (frS pI.l) 2 = .int .i64 1048576 by kernel_rfl]; rfl
abbrev args21 : List XV := [.ptr 351 0 0, .int .i64 1048576]
theorem fr_11 (ρ ρ' : Env) {fr : Fr} (h : Fr.get fr = fm ρ (frS pI.l)) : Fr.get (putF (putF (putF fr (some 35) (.ptr 351 0 0)) (some 36) (.int .i64 1048576)) (some 37) (.tup [])) = fm ρ' F11 := by
  rw [get_putF, get_putF, get_putF, h, pI_cl ρ ρ']
  show upd (upd (upd _ _ _) _ _) _ _ = _
  unfold F11
  rw [fm_set, fm_set, fm_set]
  rfl
theorem sem_ev (ρ : Env) (hbl : blwL 0 ρ.t = true) (hφ : ρ.φ = []) (hN : 1000000000 ≤ ρ.N) (n : Nat) (hA : ∀ i, i < n → FactsOK (ρS ρ i) fsA) (hB : FactsOK (ρS ρ n) fsB) :
    PureEv Tryz.prog 11 (argsS.map (XV.av ρ)) (resS.av (ρS ρ n)) := by
  have hE := eB
  split at hE
  · rename_i i F' H' e1
    simp only [Bool.and_eq_true] at hE
    obtain ⟨hi, hE⟩ := hE
    have hi := Nat.eq_of_beq_eq_true hi
    subst hi
    generalize e2 : exS (tlF 6 (fcO c11.1)) F11 H' = r at hE
    unfold endOK at hE
    split at hE
    · rename_i F2 H2
      split at hE
      · rename_i v hv
        split at hE
        · rename_i v' hv'
          have hs := sameV_ok (ρ := ρS ρ n) _ _ hE
          rw [← hs]
          refine PureEv_fz (σ' := hpx (ρS ρ n) H2) ?_ (fzX_ok (by rw [(ρS_t ρ n).1]; exact hbl) 20 _ _ hv')
          have hbs : ∀ i, blwL 0 (ρS ρ i).t = true := fun i => by rw [(ρS_t ρ i).1]; exact hbl
          have hφs : ∀ i, (ρS ρ i).φ = [] := fun i => by rw [(ρS_t ρ i).2.1]; exact hφ
          have hNs : ∀ i, 1000000000 ≤ (ρS ρ i).N := fun i => by rw [(ρS_t ρ i).2.2]; exact hN
          -- the code of 11
          have hk0 : XH.ok ⟨0, .e, ⟨[], .e, 1000000000, false, 0⟩⟩ ρ := ⟨fun o _ => Tr.get_e o, ⟨nofun, hN⟩, fun o es e => by simp at e⟩
          have h00 : hp [] = hpx ρ ⟨0, .e, ⟨[], .e, 1000000000, false, 0⟩⟩ := by funext o; simp [hpx, hφ, hp]
          have main : VC Tryz.prog [] (fcO c11.1) (initFr 0 (argsS.map (XV.av ρ))) [] (fun e fr1 S1 => isRet e ∧ hp S1 = hpx (ρS ρ n) H2 ∧ retR (hpx (ρS ρ n) H2) (Fr.get fr1) [(6, some (some 7)), (7, none)] (v.av (ρS ρ n))) := by
            rw [cut11]
            refine vc_pats (n0 := 0) (fun o _ => rfl) (callS_ok ρ) (rdS_ok ρ) hk0 e11 hbl hφ hN (fm_args _).symm h00 (fun fr1 S1 f1 f2 => ?_)
            have f1 : Fr.get fr1 = fm ρ (frS pI.l) := f1
            have f2 : hp S1 = hpx ρ (pI.H []) := f2
            obtain ⟨k0, _, _, _⟩ := pat_ex (ρ := ρ) pI hφ (by kernel_rfl) (fs := []) nofun hN
            obtain ⟨kJ, _, _, _⟩ := pat_ex (ρ := ρ) pJ hφ (by kernel_rfl) (fs := []) nofun hN
            obtain ⟨kB, _, _, _⟩ := pat_ex (ρ := ρS ρ n) pA (hφs n) (by kernel_rfl) (fs := fsB) hB (hNs n)
            have e1' : loopX (exX Tryz.prog callS rdS b21) 7 (frS pA.l) (pA.H fsB) = some (.exit 0, F', H') := by rw [← loop_R]; exact e1
            have kE : H'.ok (ρS ρ n) := loop_ok (callS_ok _) (rdS_ok _) 7 kB e1'
            obtain ⟨S2, hS2⟩ := ap_list (ρ := ρS ρ n) [] _ H' kE rfl
            have a10 : ev (Fr.get fr1) (.t 10) = .ptr 351 0 0 := by rw [f1]; exact pI_10 ρ
            have a2 : ev (Fr.get (putF fr1 (some 35) (.ptr 351 0 0))) (.t 2) = .int .i64 1048576 := by rw [get_putF, f1]; show upd (fm ρ (frS pI.l)) 35 (.ptr 351 0 0) 2 = _; rw [upd_ne _ _ (by decide)]; exact pI_2 ρ
            refine vc_call2 (fr1 := putF fr1 (some 35) (.ptr 351 0 0)) (fr2 := putF (putF fr1 (some 35) (.ptr 351 0 0)) (some 36) (.int .i64 1048576)) (by rw [a10]) (by rw [a2]) (r := .tup []) (S1 := S2) ?_ ?_
            · skip
              have ea : evL (Fr.get (putF (putF fr1 (some 35) (.ptr 351 0 0)) (some 36) (.int .i64 1048576))) [.t 35, .t 36] = args21.map (XV.av ρ) := by
                rw [get_putF, get_putF]; rfl
              rw [ea, hS2]
              refine EvX_end (S := S1) mixed (codeT_ok tabL_ok 21 _ _ _ code21) (by simp) ?_
              rw [cut21]
              have hv : ∀ o, 352 ≤ o → hp S1 o = .virgin := fun o ho => by
                rw [f2, pat_hpx pI [] o hφ]
                have : pI.os.find? (fun p => p.1 == o) = none := by
                  simp only [pI, resC, List.find?_eq_none, List.mem_cons, List.mem_nil_iff, or_false]
                  rintro q (rfl | rfl | rfl | rfl | rfl) <;> simp <;> omega
                rw [mkT_get, this]
                have : ¬ o < pI.nx := by simp only [pI]; omega
                simp only [Option.map_none]
                exact if_neg this
              refine vc_pats (n0 := 352) hv (callS_ok ρ) (rdS_ok ρ) k0 e21 hbl hφ hN (fm_args _).symm f2 (fun fr3 S3 g1 g2 => ?_)
              have g1 : Fr.get fr3 = fm ρ (frS pJ.l) := g1
              have g2 : hp S3 = hpx ρ (pJ.H []) := g2
              simp only [VC]
              refine loop_inv (n0 := 352) hv (by decide) (by decide) kJ (sI := sI) (p := pA) (kI := 4) (by have h := eI; unfold exS at h; rw [iter_R] at h; exact h) (kA := 11) (fsA := fsA) (s := sA) (by have h := eA; unfold stepOK exS at h; unfold stepOK; rw [iter_R] at h; exact h) e1' n (ρS ρ) rfl (fun i _ => rfl) hφ hφs hNs hbl hbs hA hB (callS_ok _) (rdS_ok _) (fun i _ => callS_ok _) (fun i _ => rdS_ok _) fr3 S3 _ g1 g2 (fun fr' S' r1 r2 => ?_)
              simp only [exitOf, Post.blk, if_true]
              refine ⟨trivial, r2, ?_⟩
              rw [r1]
              exact retX_ok (v := .tup []) kE rfl
            · skip
              have e2' : exX Tryz.prog callS rdS (tlF 6 (fcO c11.1)) F11 H' = some (.ret, F2, H2) := by rw [← exR_eq]; exact e2
              obtain ⟨k2, v2⟩ := exX_ok (callS_ok _) (rdS_ok _) _ _ _ _ _ _ kE e2'
              refine v2 [] _ S2 _ (fr_11 ρ (ρS ρ n) f1) hS2 (fun fr' S' r1 r2 => ⟨trivial, r2, ?_⟩)
              rw [r1]
              exact retX_ok k2 hv
          exact EvX_end mixed (codeT_ok tabL_ok 11 _ _ _ code11) (by simp) main
        · cases hE
      · cases hE
    · cases hE
  · cases hE
end Go.Proofs.YtcicbbceknhkfaaGreatDoor
