/- WholeGcd: the image's run: its loop by an invariant, evaluated. -/
import Derived.Test.YtcicbbceknhkfaaGreatDoorGcS2
namespace Go.Proofs.YtcicbbceknhkfaaGreatDoor
set_option linter.constructorNameAsVariable false
set_option linter.unusedSimpArgs false
set_option linter.unusedVariables false
open Go Go.Ab Go.RowKit
set_option maxRecDepth 100000
set_option linter.unusedVariables false
def imgV : XV := match imgT with
  | .tup (x :: _) => x
  | _ => .junk
abbrev limV : XV := .agg [.int .i64 1048576, .int .i64 65536, .slt false 1 []]
abbrev argsU : List XV := [imgV, tapeV, limV]
noncomputable abbrev callU (pk : Bool) := runR Tryz.prog pvZ (codeT tabL) (ovA (ovC 52 [(1, pk)] ovL) []) 200
noncomputable abbrev exU (pk : Bool) := exR Tryz.prog (callU pk) rdS
def rowC (r : Nat × Nat × Nat × Nat × Int) : List XV := [.int .u8 r.1, .int .i64 r.2.1, .int .i64 r.2.2.1, .int .i64 r.2.2.2.1, .int .i32 r.2.2.2.2]
def codeC : List XV := List.flatMap rowC [(13, 0, 0, 0, 0), (13, 0, 0, 0, 1), (11, 0, 0, 0, 0), (13, 0, 0, 0, 3), (3, 1, 0, 0, 0), (13, 0, 0, 0, 3), (3, 2, 0, 0, 0), (3, 0, 2, 0, 0), (8, 0, 0, 0, 19), (3, 0, 1, 0, 0), (3, 3, 2, 0, 0), (8, 0, 3, 0, 24), (43, 0, 0, 3, 0), (3, 3, 0, 0, 0), (3, 0, 2, 0, 0), (3, 1, 0, 0, 0), (3, 0, 3, 0, 0), (3, 2, 0, 0, 0), (7, 0, 0, 0, 7), (3, 0, 1, 0, 0), (13, 0, 0, 0, 2), (7, 0, 0, 0, 22), (12, 0, 0, 0, 0), (10, 0, 0, 0, 0), (1, 13, 0, 0, -1), (13, 0, 13, 0, 5)]
def z8 (n : Nat) : List XV := List.replicate n (.int .u8 0) ++ [.int .u8 1, .int .u8 0, .int .u8 0, .int .u8 0, .int .u8 0, .int .u8 0, .int .u8 0, .int .u8 0]
def regs (l : List XV) (sp pc base : Int) (r : XV) : List XV := .ref 115 25 0 26 (some 5) :: l ++ List.replicate 10 (.int .u64 0) ++ [.int .u64 sp, .int .u64 0, .int .i64 pc, .int .u64 base, r]
def rt (ran : List XV) : List XV := [.ptr 217 0 0, .sl false 6 [.agg [.int .i64 2, .int .i64 26, .int .i64 0, .nils, .nils, .int .i64 (-1)]], .nils, .ptr 219 0 0, .int .i64 1048576, .int .i64 65536, .slt false 1 [], .nils] ++ ran ++ [.nils, .nils, .nils]
def slU : List (Nat × XV) := [(5, .ptr 1 0 0), (6, .ptr 2 0 0), (7, .int .i64 0), (12, .ptr 220 0 0)]
def o1 : Nat × Nat × List XV := (1, 0, [.int .i64 1048576, .int .i64 65536, .slt false 1 []])
def o2 : Nat × Nat × List XV := (2, 0, [.nils, .int .i64 0, .int .u64 0, .int .i64 0, .int .i64 0, .int .i64 0])
/-- Ahead of the loop. -/
def pV : Pat := ⟨slU, 230, [o1, o2, (115, 25, codeC), (216, 0, z8 504),
  (217, 0, regs [.int .u64 0, .int .u64 0, .int .u64 0, .int .u64 0] 1049080 2 1048576 (.ref 216 0 0 512 none)),
  (218, 1, [.sym .u64 (.var 0), .sym .u64 (.var 1)]),
  (219, 0, [.ref 218 1 0 2 none, .nils]),
  (220, 0, rt [.int .i64 0, .int .u64 0, .int .i64 0, .int .i64 0, .int .i64 0])]⟩
def rU : List XV := [.sym .u64 (.var 6), .sym .u64 (.var 0), .sym .u64 (.var 1), .sym .u64 (.var 2)]
/-- In the loop, the stack where it was. -/
def pU0 : Pat := ⟨slU, 300, [o1, o2, (115, 25, codeC), (216, 0, z8 504),
  (217, 0, regs rU 1049080 7 1048576 (.ref 216 0 0 512 none)),
  (218, 1, [.sym .u64 (.var 3), .sym .u64 (.var 4)]),
  (219, 0, [.ref 218 1 2 0 none, .ref 244 1 0 2 (some 2)]),
  (220, 0, rt [.int .i64 0, .int .u64 0, .sym .i64 (.var 5), .int .i64 1, .int .i64 0]),
  (244, 1, [.int .i64 2, .sym .u64 (.var 3), .int .i64 2, .sym .u64 (.var 4)])]⟩
/-- In the loop, the stack moved. -/
def pU1 : Pat := ⟨slU, 300, [o1, o2, (115, 25, codeC),
  (217, 0, regs rU 2098168 7 2097152 (.ref 245 1 0 1024 none)),
  (218, 1, [.sym .u64 (.var 3), .sym .u64 (.var 4)]),
  (219, 0, [.ref 218 1 2 0 none, .ref 256 1 0 2 (some 2)]),
  (220, 0, rt [.int .i64 0, .int .u64 0, .sym .i64 (.var 5), .int .i64 1, .int .i64 1]),
  (245, 1, z8 1016),
  (256, 1, [.int .i64 2, .sym .u64 (.var 3), .int .i64 2, .sym .u64 (.var 4)])]⟩
def pU : Bool → Pat
  | false => pU0
  | true => pU1
def sJ : Nat → SE
  | 0 => .var 0 | 1 => .var 1 | 2 => .num 0 | 3 => .var 0 | 4 => .var 1 | 5 => .num 5 | _ => .var 1
def sU : Nat → SE
  | 0 => Y | 1 => .bop .rem .u64 X Y | 2 => .bop .rem .u64 X Y | 3 => .var 3 | 4 => .var 4 | 5 => stN .i64 (.var 5) 12 | _ => .bop .rem .u64 X Y
def fsStU : List (SE × SE) := (List.range 13).map fun i => (.bop .eql .i64 (stN .i64 (.var 5) i) (.num 1048576), .num 0)
def fsAU : List (SE × SE) := (.bop .neq .u64 Y (.num 0), .num 1) :: (.bop .eql .u64 Y (.num 0), .num 0) :: (.bop .neq .i64 (.cv .i64 Y) (.num 0), .num 1) :: (.bop .eql .i64 (.cv .i64 Y) (.num 0), .num 0) :: (.bop .eql .i64 (.cv .i64 Y) (.num (-1)), .num 0) :: (.cv .u64 (.bop .rem .i64 (.cv .i64 X) (.cv .i64 Y)), .bop .rem .u64 X Y) :: fsStU
def fsBU : List (SE × SE) := (.bop .neq .u64 Y (.num 0), .num 0) :: (.bop .eql .u64 Y (.num 0), .num 1) :: fsStU
def resU (pk : Bool) : XV := .tup [.agg [.sl false 2 [.agg [.int .i64 2, .sym .u64 (.var 3)], .agg [.int .i64 2, .sym .u64 (.var 4)], .agg [.int .i64 1, .sym .u64 (.var 0)]], .int .i64 1, .int .u64 0, .sym .i64 (stN .i64 (.var 5) 8), .int .i64 1, .int .i64 (bif pk then 1 else 0)], .int .i64 0]
abbrev b12 : FC := bodyF (fstF (tlF 8 (fcO c12.1)))
theorem code12 : codeT tabL 12 = some (119, [(6, some (some 6)), (7, none)], fcO c12.1) := by kernel_rfl
theorem cut12 : fcO c12.1 = seqs (hdF 7 (fcO c12.1)) (.seq (fstF (tlF 7 (fcO c12.1))) (.seq (.block 0 (.loop b12)) (tlF 9 (fcO c12.1)))) := by kernel_rfl
theorem e12f : chkR 0 pV SE.var (exs (exU false) (hdF 7 (fcO c12.1) ++ [fstF (tlF 7 (fcO c12.1))]) (XF.ofL argsU .nil 0) ⟨0, .e, ⟨[], .e, 1000000000, false, 0⟩⟩) = true := by kernel_rfl
theorem e12t : chkR 0 pV SE.var (exs (exU true) (hdF 7 (fcO c12.1) ++ [fstF (tlF 7 (fcO c12.1))]) (XF.ofL argsU .nil 0) ⟨0, .e, ⟨[], .e, 1000000000, false, 0⟩⟩) = true := by kernel_rfl
theorem eJf : (match iterX (exU false b12) 5 (frS pV.l) (pV.H []) with | some (F, H) => chkS 0 (pU false) sJ F H | none => false) = true := by kernel_rfl
theorem eJt : (match iterX (exU true b12) 5 (frS pV.l) (pV.H []) with | some (F, H) => chkS 0 (pU true) sJ F H | none => false) = true := by kernel_rfl
theorem eUf : stepOK 0 (exU false b12) 12 (pU false) fsAU sU = true := by kernel_rfl
theorem eUt : stepOK 0 (exU true b12) 12 (pU true) fsAU sU = true := by kernel_rfl
theorem eVf : (match loopX (exU false b12) 10 (frS (pU false).l) ((pU false).H fsBU) with | some (.exit i, F, H) => Nat.beq i 0 && endOK (resU false) [(6, some (some 6)), (7, none)] (exU false (tlF 9 (fcO c12.1)) F H) | _ => false) = true := by kernel_rfl
theorem eVt : (match loopX (exU true b12) 10 (frS (pU true).l) ((pU true).H fsBU) with | some (.exit i, F, H) => Nat.beq i 0 && endOK (resU true) [(6, some (some 6)), (7, none)] (exU true (tlF 9 (fcO c12.1)) F H) | _ => false) = true := by kernel_rfl
end Go.Proofs.YtcicbbceknhkfaaGreatDoor
/- WholeGcd: the image's run, joined. -/
namespace Go.Proofs.YtcicbbceknhkfaaGreatDoor
set_option linter.constructorNameAsVariable false
set_option linter.unusedSimpArgs false
set_option linter.unusedVariables false
open Go Go.Ab Go.RowKit
set_option maxRecDepth 100000
set_option linter.unusedVariables false
set_option maxHeartbeats 2000000
def ρU (ρ : Env) : Nat → Env
  | 0 => ρ.sb sJ
  | i + 1 => (ρU ρ i).sb sU
theorem ρU_t (ρ : Env) : ∀ i, (ρU ρ i).t = ρ.t ∧ (ρU ρ i).φ = ρ.φ ∧ (ρU ρ i).N = ρ.N
  | 0 => ⟨rfl, rfl, rfl⟩
  | i + 1 => ρU_t ρ i
theorem callU_ok {l : List Int} (hl : l.length ≤ 9223372036854775807) {pk : Bool} (hpk : PicksOK l [(1, pk)]) (ρ : Env) (ht : ρ.t = l.map (AV.int .i64)) : CallOK ρ Tryz.prog (callU pk) := by
  unfold callU
  rw [runR_eq]
  exact runX_ok pvZ_ok mixed (codeT_ok tabL_ok) (ovA_ok (fs := []) nofun (ovC_ok ht hl hpk ovL_ok) (ms := []) trivial) 200
theorem unw_ev (pk : Bool) (ρ : Env) {l : List Int} (ht : ρ.t = l.map (AV.int .i64)) (hl : l.length ≤ 9223372036854775807) (hpk : PicksOK l [(1, pk)]) (hφ : ρ.φ = []) (hN : 1000000000 ≤ ρ.N) (n : Nat) (hA : ∀ i, i < n → FactsOK (ρU ρ i) fsAU) (hB : FactsOK (ρU ρ n) fsBU)
    (e0 : chkR 0 pV SE.var (exs (exU pk) (hdF 7 (fcO c12.1) ++ [fstF (tlF 7 (fcO c12.1))]) (XF.ofL argsU .nil 0) ⟨0, .e, ⟨[], .e, 1000000000, false, 0⟩⟩) = true)
    (eI : (match iterX (exU pk b12) 5 (frS pV.l) (pV.H []) with | some (F, H) => chkS 0 (pU pk) sJ F H | none => false) = true)
    (eA : stepOK 0 (exU pk b12) 12 (pU pk) fsAU sU = true)
    (eB : (match loopX (exU pk b12) 10 (frS (pU pk).l) ((pU pk).H fsBU) with | some (.exit i, F, H) => Nat.beq i 0 && endOK (resU pk) [(6, some (some 6)), (7, none)] (exU pk (tlF 9 (fcO c12.1)) F H) | _ => false) = true) :
    PureEv Tryz.prog 12 (argsU.map (XV.av ρ)) ((resU pk).av (ρU ρ n)) := by
  split at eB
  · rename_i i F' H' e1
    simp only [Bool.and_eq_true] at eB
    obtain ⟨hi, hE⟩ := eB
    have hi := Nat.eq_of_beq_eq_true hi
    subst hi
    generalize e2 : exU pk (tlF 9 (fcO c12.1)) F' H' = r at hE
    unfold endOK at hE
    split at hE
    · rename_i F2 H2
      split at hE
      · rename_i v hv
        split at hE
        · rename_i v' hv'
          have hs := sameV_ok (ρ := ρU ρ n) _ _ hE
          rw [← hs]
          refine PureEv_fz (σ' := hpx (ρU ρ n) H2) ?_ (fzX_ok (by rw [(ρU_t ρ n).1, ht]; exact blw_i64 l) 20 _ _ hv')
          have hbl : blwL 0 ρ.t = true := by rw [ht]; exact blw_i64 l
          have hts : ∀ i, (ρU ρ i).t = l.map (AV.int .i64) := fun i => by rw [(ρU_t ρ i).1]; exact ht
          have hbs : ∀ i, blwL 0 (ρU ρ i).t = true := fun i => by rw [hts]; exact blw_i64 l
          have hφs : ∀ i, (ρU ρ i).φ = [] := fun i => by rw [(ρU_t ρ i).2.1]; exact hφ
          have hNs : ∀ i, 1000000000 ≤ (ρU ρ i).N := fun i => by rw [(ρU_t ρ i).2.2]; exact hN
          have hk0 : XH.ok ⟨0, .e, ⟨[], .e, 1000000000, false, 0⟩⟩ ρ := ⟨fun o _ => Tr.get_e o, ⟨nofun, hN⟩, fun o es e => by simp at e⟩
          have h00 : hp [] = hpx ρ ⟨0, .e, ⟨[], .e, 1000000000, false, 0⟩⟩ := by funext o; simp [hpx, hφ, hp]
          have hcs : ∀ i, CallOK (ρU ρ i) Tryz.prog (callU pk) := fun i => callU_ok hl hpk _ (hts i)
          have hc := callU_ok hl hpk ρ ht
          have hos : okO (pU pk).nx (pU pk).os = true := by cases pk <;> kernel_rfl
          have main : VC Tryz.prog [] (fcO c12.1) (initFr 0 (argsU.map (XV.av ρ))) [] (fun e fr1 S1 => isRet e ∧ hp S1 = hpx (ρU ρ n) H2 ∧ retR (hpx (ρU ρ n) H2) (Fr.get fr1) [(6, some (some 6)), (7, none)] (v.av (ρU ρ n))) := by
            rw [cut12]
            refine vc_pats (n0 := 0) (fun o _ => rfl) hc (rdS_ok ρ) hk0 e0 hbl hφ hN (fm_args _).symm h00 (fun fr1 S1 f1 f2 => ?_)
            have f1 : Fr.get fr1 = fm ρ (frS pV.l) := f1
            have f2 : hp S1 = hpx ρ (pV.H []) := f2
            obtain ⟨kJ, _, _, _⟩ := pat_ex (ρ := ρ) pV hφ (by kernel_rfl) (fs := []) nofun hN
            obtain ⟨kB, _, _, _⟩ := pat_ex (ρ := ρU ρ n) (pU pk) (hφs n) hos (fs := fsBU) hB (hNs n)
            have e1' : loopX (exX Tryz.prog (callU pk) rdS b12) 10 (frS (pU pk).l) ((pU pk).H fsBU) = some (.exit 0, F', H') := by rw [← loop_R]; exact e1
            have kE : H'.ok (ρU ρ n) := loop_ok (hcs n) (rdS_ok _) 10 kB e1'
            simp only [VC]
            refine loop_inv (n0 := 0) (fun o _ => rfl) (by decide) (by decide) kJ (sI := sJ) (p := pU pk) (kI := 5) (by have h := eI; unfold exU at h; rw [iter_R] at h; exact h) (kA := 12) (fsA := fsAU) (s := sU) (by have h := eA; unfold stepOK exU at h; unfold stepOK; rw [iter_R] at h; exact h) e1' n (ρU ρ) rfl (fun i _ => rfl) hφ hφs hNs hbl hbs hA hB hc (rdS_ok _) (fun i _ => hcs i) (fun i _ => rdS_ok _) fr1 S1 _ f1 f2 (fun fr' S' r1 r2 => ?_)
            simp only [exitOf, Post.blk, if_true, Post.thn]
            have e2' : exX Tryz.prog (callU pk) rdS (tlF 9 (fcO c12.1)) F' H' = some (.ret, F2, H2) := by rw [← exR_eq]; exact e2
            obtain ⟨k2, v2⟩ := exX_ok (hcs n) (rdS_ok _) _ _ _ _ _ _ kE e2'
            refine ⟨fr', S', wk_refl, v2 [] _ S' _ r1 r2 (fun fr3 S3 q1 q2 => ⟨trivial, q2, ?_⟩)⟩
            rw [q1]
            exact retX_ok k2 hv
          exact EvX_end mixed (codeT_ok tabL_ok 12 _ _ _ code12) (by simp) main
        · cases hE
      · cases hE
    · cases hE
  · cases eB
theorem unw_f (ρ : Env) {l : List Int} (ht : ρ.t = l.map (AV.int .i64)) (hl : l.length ≤ 9223372036854775807) (hpk : PicksOK l [(1, false)]) (hφ : ρ.φ = []) (hN : 1000000000 ≤ ρ.N) (n : Nat) (hA : ∀ i, i < n → FactsOK (ρU ρ i) fsAU) (hB : FactsOK (ρU ρ n) fsBU) : PureEv Tryz.prog 12 (argsU.map (XV.av ρ)) ((resU false).av (ρU ρ n)) :=
  unw_ev false ρ ht hl hpk hφ hN n hA hB e12f eJf eUf eVf
theorem unw_t (ρ : Env) {l : List Int} (ht : ρ.t = l.map (AV.int .i64)) (hl : l.length ≤ 9223372036854775807) (hpk : PicksOK l [(1, true)]) (hφ : ρ.φ = []) (hN : 1000000000 ≤ ρ.N) (n : Nat) (hA : ∀ i, i < n → FactsOK (ρU ρ i) fsAU) (hB : FactsOK (ρU ρ n) fsBU) : PureEv Tryz.prog 12 (argsU.map (XV.av ρ)) ((resU true).av (ρU ρ n)) :=
  unw_ev true ρ ht hl hpk hφ hN n hA hB e12t eJt eUt eVt
end Go.Proofs.YtcicbbceknhkfaaGreatDoor
