/- The evaluator in a form that the kernel reckons fast: every choice is a recursor whose branches are closed terms. Printed by a program. -/
import Derived.Test.YtjgdppgagihejaaWlX9
namespace Go.Ab
set_option linter.constructorNameAsVariable false
set_option linter.unusedSimpArgs false
set_option linter.unusedVariables false
open Go.RowKit
set_option linter.unusedVariables false
set_option linter.unusedSimpArgs false
set_option maxRecDepth 4000
noncomputable section

theorem brec {α : Type} (c : Bool) (x y : α) : (Bool.rec (motive := fun _ => α) y x c : α) = (bif c then x else y) := by cases c <;> rfl
def get1R : D8 → F1 → XV := D8.rec (motive := fun _ => F1 → XV) (fun t => t.p0) (fun t => t.p1) (fun t => t.p2) (fun t => t.p3) (fun t => t.p4) (fun t => t.p5) (fun t => t.p6) (fun t => t.p7)
def lk1 : F1 → (F1 → F2) → F2 := N8.rec (motive := fun _ => (F1 → F2) → F2) (fun p0 p1 p2 p3 p4 p5 p6 p7 k => k (.mk p0 p1 p2 p3 p4 p5 p6 p7))
def get2R : D8 → F2 → F1 := D8.rec (motive := fun _ => F2 → F1) (fun t => t.p0) (fun t => t.p1) (fun t => t.p2) (fun t => t.p3) (fun t => t.p4) (fun t => t.p5) (fun t => t.p6) (fun t => t.p7)
def lk2 : F2 → (F2 → F3) → F3 := N8.rec (motive := fun _ => (F2 → F3) → F3) (fun p0 p1 p2 p3 p4 p5 p6 p7 k => k (.mk p0 p1 p2 p3 p4 p5 p6 p7))
def get3R : D8 → F3 → F2 := D8.rec (motive := fun _ => F3 → F2) (fun t => t.p0) (fun t => t.p1) (fun t => t.p2) (fun t => t.p3) (fun t => t.p4) (fun t => t.p5) (fun t => t.p6) (fun t => t.p7)
def set1R : D8 → XV → F1 → F1 := D8.rec (motive := fun _ => XV → F1 → F1) (fun x => N8.rec (motive := fun _ => F1) (fun p0 p1 p2 p3 p4 p5 p6 p7 => .mk x p1 p2 p3 p4 p5 p6 p7)) (fun x => N8.rec (motive := fun _ => F1) (fun p0 p1 p2 p3 p4 p5 p6 p7 => .mk p0 x p2 p3 p4 p5 p6 p7)) (fun x => N8.rec (motive := fun _ => F1) (fun p0 p1 p2 p3 p4 p5 p6 p7 => .mk p0 p1 x p3 p4 p5 p6 p7)) (fun x => N8.rec (motive := fun _ => F1) (fun p0 p1 p2 p3 p4 p5 p6 p7 => .mk p0 p1 p2 x p4 p5 p6 p7)) (fun x => N8.rec (motive := fun _ => F1) (fun p0 p1 p2 p3 p4 p5 p6 p7 => .mk p0 p1 p2 p3 x p5 p6 p7)) (fun x => N8.rec (motive := fun _ => F1) (fun p0 p1 p2 p3 p4 p5 p6 p7 => .mk p0 p1 p2 p3 p4 x p6 p7)) (fun x => N8.rec (motive := fun _ => F1) (fun p0 p1 p2 p3 p4 p5 p6 p7 => .mk p0 p1 p2 p3 p4 p5 x p7)) (fun x => N8.rec (motive := fun _ => F1) (fun p0 p1 p2 p3 p4 p5 p6 p7 => .mk p0 p1 p2 p3 p4 p5 p6 x))
def set2R : D8 → D8 → XV → F2 → F2 := D8.rec (motive := fun _ => D8 → XV → F2 → F2) (fun e x => N8.rec (motive := fun _ => F2) (fun p0 p1 p2 p3 p4 p5 p6 p7 => lk1 (set1R e x p0) fun u => .mk u p1 p2 p3 p4 p5 p6 p7)) (fun e x => N8.rec (motive := fun _ => F2) (fun p0 p1 p2 p3 p4 p5 p6 p7 => lk1 (set1R e x p1) fun u => .mk p0 u p2 p3 p4 p5 p6 p7)) (fun e x => N8.rec (motive := fun _ => F2) (fun p0 p1 p2 p3 p4 p5 p6 p7 => lk1 (set1R e x p2) fun u => .mk p0 p1 u p3 p4 p5 p6 p7)) (fun e x => N8.rec (motive := fun _ => F2) (fun p0 p1 p2 p3 p4 p5 p6 p7 => lk1 (set1R e x p3) fun u => .mk p0 p1 p2 u p4 p5 p6 p7)) (fun e x => N8.rec (motive := fun _ => F2) (fun p0 p1 p2 p3 p4 p5 p6 p7 => lk1 (set1R e x p4) fun u => .mk p0 p1 p2 p3 u p5 p6 p7)) (fun e x => N8.rec (motive := fun _ => F2) (fun p0 p1 p2 p3 p4 p5 p6 p7 => lk1 (set1R e x p5) fun u => .mk p0 p1 p2 p3 p4 u p6 p7)) (fun e x => N8.rec (motive := fun _ => F2) (fun p0 p1 p2 p3 p4 p5 p6 p7 => lk1 (set1R e x p6) fun u => .mk p0 p1 p2 p3 p4 p5 u p7)) (fun e x => N8.rec (motive := fun _ => F2) (fun p0 p1 p2 p3 p4 p5 p6 p7 => lk1 (set1R e x p7) fun u => .mk p0 p1 p2 p3 p4 p5 p6 u))
def set3R : D8 → D8 → D8 → XV → F3 → F3 := D8.rec (motive := fun _ => D8 → D8 → XV → F3 → F3) (fun d e x => N8.rec (motive := fun _ => F3) (fun p0 p1 p2 p3 p4 p5 p6 p7 => lk2 (set2R d e x p0) fun u => .mk u p1 p2 p3 p4 p5 p6 p7)) (fun d e x => N8.rec (motive := fun _ => F3) (fun p0 p1 p2 p3 p4 p5 p6 p7 => lk2 (set2R d e x p1) fun u => .mk p0 u p2 p3 p4 p5 p6 p7)) (fun d e x => N8.rec (motive := fun _ => F3) (fun p0 p1 p2 p3 p4 p5 p6 p7 => lk2 (set2R d e x p2) fun u => .mk p0 p1 u p3 p4 p5 p6 p7)) (fun d e x => N8.rec (motive := fun _ => F3) (fun p0 p1 p2 p3 p4 p5 p6 p7 => lk2 (set2R d e x p3) fun u => .mk p0 p1 p2 u p4 p5 p6 p7)) (fun d e x => N8.rec (motive := fun _ => F3) (fun p0 p1 p2 p3 p4 p5 p6 p7 => lk2 (set2R d e x p4) fun u => .mk p0 p1 p2 p3 u p5 p6 p7)) (fun d e x => N8.rec (motive := fun _ => F3) (fun p0 p1 p2 p3 p4 p5 p6 p7 => lk2 (set2R d e x p5) fun u => .mk p0 p1 p2 p3 p4 u p6 p7)) (fun d e x => N8.rec (motive := fun _ => F3) (fun p0 p1 p2 p3 p4 p5 p6 p7 => lk2 (set2R d e x p6) fun u => .mk p0 p1 p2 p3 p4 p5 u p7)) (fun d e x => N8.rec (motive := fun _ => F3) (fun p0 p1 p2 p3 p4 p5 p6 p7 => lk2 (set2R d e x p7) fun u => .mk p0 p1 p2 p3 p4 p5 p6 u))
def getDR {α : Type} (d : α) : Option α → α := Option.rec (motive := fun _ => α) d (fun x => x)
def atR (F : XF) (i : Nat) : XV := Bool.rec (motive := fun _ => XV) (getDR .junk (F.hi.get i)) (get1R (dig8 (Nat.mod i 8)) (get2R (dig8 (Nat.mod (Nat.div i 8) 8)) (get3R (dig8 (Nat.div i 64)) F.lo))) (Nat.blt i 512)
def lk3 : F3 → (F3 → XF) → XF := N8.rec (motive := fun _ => (F3 → XF) → XF) (fun p0 p1 p2 p3 p4 p5 p6 p7 k => k (.mk p0 p1 p2 p3 p4 p5 p6 p7))
theorem lk3_eq (t : F3) (k : F3 → XF) : lk3 t k = k t := by cases t; rfl
def setR (i : Nat) (x : XV) (F : XF) : XF := XF.rec (motive := fun _ => XF) (fun lo hi => Bool.rec (motive := fun _ => XF) ⟨lo, hi.set i x⟩ (lk3 (set3R (dig8 (Nat.div i 64)) (dig8 (Nat.mod (Nat.div i 8) 8)) (dig8 (Nat.mod i 8)) x lo) fun u => ⟨u, hi⟩) (Nat.blt i 512)) F
theorem get1R_eq (d : D8) (t : F1) : get1R d t = t.get d := by cases d <;> rfl
theorem get2R_eq (d : D8) (t : F2) : get2R d t = t.get d := by cases d <;> rfl
theorem get3R_eq (d : D8) (t : F3) : get3R d t = t.get d := by cases d <;> rfl
theorem set1R_eq (d : D8) (x : XV) (t : F1) : set1R d x t = t.set d x := by cases t; cases d <;> rfl
theorem lk1_eq (t : F1) (k : F1 → F2) : lk1 t k = k t := by cases t; rfl
theorem lk2_eq (t : F2) (k : F2 → F3) : lk2 t k = k t := by cases t; rfl
theorem set2R_eq (d e : D8) (x : XV) (t : F2) : set2R d e x t = t.set d ((t.get d).set e x) := by
  rw [← set1R_eq]
  cases t; cases d <;> exact lk1_eq _ _
theorem set3R_eq (d e f : D8) (x : XV) (t : F3) : set3R d e f x t = t.set d ((t.get d).set e (((t.get d).get e).set f x)) := by
  rw [← set2R_eq]
  cases t; cases d <;> exact lk2_eq _ _
theorem atR_eq (F : XF) (i : Nat) : atR F i = F.at i := by
  unfold atR XF.at
  rw [get1R_eq, get2R_eq, get3R_eq]
  cases Nat.blt i 512
  · cases F.hi.get i <;> rfl
  · rfl
theorem setR_eq (F : XF) (i : Nat) (x : XV) : setR i x F = F.set i x := by
  cases F with
  | mk lo hi =>
    show (Bool.rec (motive := fun _ => XF) ⟨lo, hi.set i x⟩ (lk3 (set3R (dig8 (Nat.div i 64)) (dig8 (Nat.mod (Nat.div i 8) 8)) (dig8 (Nat.mod i 8)) x lo) fun u => ⟨u, hi⟩) (Nat.blt i 512) : XF) = _
    rw [brec, lk3_eq, set3R_eq]; rfl

/-! tries -/
def Tr.lookR {α β : Type} (t : Tr α) (k : Tr α → β) : β := Tr.rec (motive := fun _ => (Tr α → β) → β) (fun k => k .e) (fun v p q r s _ _ _ _ k => k (.nd v p q r s)) t k
def Tr.vR {α : Type} : Tr α → Option α := Tr.rec (motive := fun _ => Option α) none (fun v _ _ _ _ _ _ _ _ => v)
def Tr.dnR {α : Type} : D4 → Tr α → Tr α := D4.rec (motive := fun _ => Tr α → Tr α)
  (Tr.rec (motive := fun _ => Tr α) .e (fun _ p _ _ _ _ _ _ _ => p)) (Tr.rec (motive := fun _ => Tr α) .e (fun _ _ q _ _ _ _ _ _ => q)) (Tr.rec (motive := fun _ => Tr α) .e (fun _ _ _ r _ _ _ _ _ => r)) (Tr.rec (motive := fun _ => Tr α) .e (fun _ _ _ _ s _ _ _ _ => s))
def Tr.getPR {α : Type} : List D4 → Tr α → Option α := List.rec (motive := fun _ => Tr α → Option α) Tr.vR (fun d _ ih t => ih (Tr.dnR d t))
def Tr.getR {α : Type} (t : Tr α) (i : Nat) : Option α := Tr.getPR (path i) t
def Tr.put0R {α : Type} (x : α) : Tr α → Tr α := Tr.rec (motive := fun _ => Tr α) (.nd (some x) .e .e .e .e) (fun _ p q r s _ _ _ _ => .nd (some x) p q r s)
def Tr.stR {α : Type} : D4 → (Tr α → Tr α) → Tr α → Tr α := D4.rec (motive := fun _ => (Tr α → Tr α) → Tr α → Tr α)
  (fun ih => Tr.rec (motive := fun _ => Tr α) (Tr.lookR (ih .e) fun u => .nd none u .e .e .e) (fun v p q r s _ _ _ _ => Tr.lookR (ih p) fun u => .nd v u q r s))
  (fun ih => Tr.rec (motive := fun _ => Tr α) (Tr.lookR (ih .e) fun u => .nd none .e u .e .e) (fun v p q r s _ _ _ _ => Tr.lookR (ih q) fun u => .nd v p u r s))
  (fun ih => Tr.rec (motive := fun _ => Tr α) (Tr.lookR (ih .e) fun u => .nd none .e .e u .e) (fun v p q r s _ _ _ _ => Tr.lookR (ih r) fun u => .nd v p q u s))
  (fun ih => Tr.rec (motive := fun _ => Tr α) (Tr.lookR (ih .e) fun u => .nd none .e .e .e u) (fun v p q r s _ _ _ _ => Tr.lookR (ih s) fun u => .nd v p q r u))
def Tr.setPR {α : Type} (x : α) : List D4 → Tr α → Tr α := List.rec (motive := fun _ => Tr α → Tr α) (Tr.put0R x) (fun d _ ih => Tr.stR d ih)
def Tr.setR {α : Type} (t : Tr α) (i : Nat) (x : α) : Tr α := Tr.setPR x (path i) t
theorem Tr.lookR_eq {α β : Type} (t : Tr α) (k : Tr α → β) : t.lookR k = k t := by cases t <;> rfl
theorem Tr.vR_eq {α : Type} (t : Tr α) : t.vR = t.v := by cases t <;> rfl
theorem Tr.dnR_eq {α : Type} (d : D4) (t : Tr α) : Tr.dnR d t = t.dn d := by cases d <;> cases t <;> rfl
theorem Tr.getPR_eq {α : Type} : ∀ (l : List D4) (t : Tr α), Tr.getPR l t = Tr.getP l t
  | [], t => Tr.vR_eq t
  | d :: l, t => by
    show Tr.getPR l (Tr.dnR d t) = _
    rw [Tr.getPR_eq l, Tr.dnR_eq]; rfl
theorem Tr.getR_eq {α : Type} (t : Tr α) (i : Nat) : t.getR i = t.get i := Tr.getPR_eq _ _
theorem Tr.put0R_eq {α : Type} (x : α) (t : Tr α) : Tr.put0R x t = t.put0 x := by cases t <;> rfl
theorem Tr.stR_eq {α : Type} (d : D4) (ih : Tr α → Tr α) (t : Tr α) : Tr.stR d ih t = t.up d (ih (t.dn d)) := by
  cases d <;> cases t <;> exact Tr.lookR_eq _ _
theorem Tr.setPR_eq {α : Type} (x : α) : ∀ (l : List D4) (t : Tr α), Tr.setPR x l t = Tr.setP x l t
  | [], t => Tr.put0R_eq x t
  | d :: l, t => by
    show Tr.stR d (Tr.setPR x l) t = _
    rw [Tr.stR_eq, Tr.setPR_eq x l, Tr.setP, Tr.look_eq]
theorem Tr.setR_eq {α : Type} (t : Tr α) (i : Nat) (x : α) : t.setR i x = t.set i x := Tr.setPR_eq _ _ _
def Tr.setLR {α : Type} : List α → Tr α → Nat → Tr α := List.rec (motive := fun _ => Tr α → Nat → Tr α) (fun t _ => t) (fun x _ ih t i => Tr.lookR (Tr.setR t i x) fun t' => ih t' (Nat.succ i))
theorem Tr.setLR_eq {α : Type} : ∀ (l : List α) (t : Tr α) (i : Nat), Tr.setLR l t i = Tr.setL l t i
  | [], t, i => rfl
  | x :: l, t, i => by
    show Tr.lookR (Tr.setR t i x) (fun t' => Tr.setLR l t' (i + 1)) = _
    rw [Tr.lookR_eq, Tr.setR_eq, Tr.setLR_eq l, Tr.setL, Tr.look_eq]
def consO {α : Type} (x : α) : Option (List α) → Option (List α) := Option.rec (motive := fun _ => Option (List α)) none (fun l => some (x :: l))
def Tr.rdR {α : Type} (t : Tr α) : Nat → Nat → Option (List α) := Nat.rec (motive := fun _ => Nat → Option (List α)) (fun _ => some []) (fun _ ih i => Option.rec (motive := fun _ => Option (List α)) none (fun x => consO x (ih (Nat.succ i))) (t.getR i))
theorem Tr.rdR_eq {α : Type} (t : Tr α) : ∀ (n i : Nat), t.rdR n i = t.rd n i
  | 0, i => rfl
  | n + 1, i => by
    show Option.rec (motive := fun _ => Option (List α)) none (fun x => consO x (t.rdR n (i + 1))) (t.getR i) = _
    rw [Tr.getR_eq, Tr.rdR_eq t n, Tr.rd]
    cases t.get i with
    | none => rfl
    | some x => cases t.rd n (i + 1) <;> rfl

/-! operands -/
def evR (F : XF) (x : Opd) : XV := Opd.rec (motive := fun _ => XF → XV) (fun i F => atR F i) (fun x _ => XV.ofAV x) x F
theorem evR_eq (F : XF) (x : Opd) : evR F x = evx F x := by
  cases x with
  | t i => exact atR_eq F i
  | v x => rfl
def evLR (F : XF) : List Opd → List XV := List.rec (motive := fun _ => List XV) [] (fun x _ ih => evR F x :: ih)
theorem evLR_eq (F : XF) : ∀ (l : List Opd), evLR F l = evxL F l
  | [] => rfl
  | x :: l => by
    show evR F x :: evLR F l = _
    rw [evR_eq, evLR_eq F l]; rfl
def evPR (F : XF) : List (Nat × Nat × Opd) → List (Nat × Nat × XV) := List.rec (motive := fun _ => List (Nat × Nat × XV)) [] (fun p _ ih => (p.1, p.2.1, evR F p.2.2) :: ih)
theorem evPR_eq (F : XF) : ∀ (l : List (Nat × Nat × Opd)), evPR F l = evxP F l
  | [] => rfl
  | (a, b, x) :: l => by
    show (a, b, evR F x) :: evPR F l = _
    rw [evR_eq, evPR_eq F l]; rfl
def evOR (F : XF) (x : Option Opd) : Option XV := Option.rec (motive := fun _ => XF → Option XV) (fun _ => none) (fun x F => some (evR F x)) x F
theorem evOR_eq (F : XF) (x : Option Opd) : evOR F x = evxO F x := by
  cases x with
  | none => rfl
  | some x => show some (evR F x) = _; rw [evR_eq]; rfl

/-! values -/
def cellsR : XV → List XV := XV.rec (motive_1 := fun _ => List XV) (motive_2 := fun _ => Unit) (fun k n => [.int k n]) (fun k e => [.sym k e]) (fun b => [.bool b]) (fun s => [.str s]) ([.nilp]) (fun o ver off => [.ptr o ver off]) (fun cs off _ => [.cptr cs off]) ([.nils]) (fun ex sz xs _ => [.sl ex sz xs]) (fun o ver off n esh => [.ref o ver off n esh]) (fun ex sz xs _ => [.slt ex sz xs]) (fun n => [.lenT n]) (fun cs _ => cs) (fun vs _ => [.tup vs]) ([.nilf]) (fun f first caps _ _ => [.fn f first caps]) ([.nili]) (fun t v _ => [.iface t v]) (fun x => [.lit x]) ([.junk]) () (fun _ _ _ _ => ())
theorem cellsR_eq (x : XV) : cellsR x = x.cells := by cases x <;> rfl
def oneVR : XV → Bool := XV.rec (motive_1 := fun _ => Bool) (motive_2 := fun _ => Unit) (fun _ _ => true) (fun _ _ => true) (fun _ => true) (fun _ => true) (true) (fun _ _ _ => true) (fun _ _ _ => true) (true) (fun _ _ _ _ => true) (fun _ _ _ _ _ => true) (fun _ _ _ _ => true) (fun _ => true) (fun cs _ => false) (fun vs _ => false) (true) (fun _ _ _ _ _ => true) (true) (fun _ _ _ => true) (fun x => false) (false) () (fun _ _ _ _ => ())
theorem oneVR_eq (x : XV) : oneVR x = x.one := by cases x <;> rfl
def njR : XV → Bool := XV.rec (motive_1 := fun _ => Bool) (motive_2 := fun _ => Unit) (fun _ _ => true) (fun _ _ => true) (fun _ => true) (fun _ => true) (true) (fun _ _ _ => true) (fun _ _ _ => true) (true) (fun _ _ _ _ => true) (fun _ _ _ _ _ => true) (fun _ _ _ _ => true) (fun _ => true) (fun _ _ => true) (fun _ _ => true) (true) (fun _ _ _ _ _ => true) (true) (fun _ _ _ => true) (fun x => false) (false) () (fun _ _ _ _ => ())
theorem njR_eq (x : XV) : njR x = x.nj := by cases x <;> rfl
def andR (a b : Bool) : Bool := Bool.rec (motive := fun _ => Bool → Bool) (fun _ => false) (fun b => b) a b
theorem andR_eq (a b : Bool) : andR a b = (a && b) := by cases a <;> rfl
def allOneR : List XV → Bool := List.rec (motive := fun _ => Bool) true (fun x _ ih => andR (oneVR x) ih)
theorem allOneR_eq : ∀ (l : List XV), allOneR l = allOne l
  | [] => rfl
  | x :: l => by show andR (oneVR x) (allOneR l) = _; rw [andR_eq, oneVR_eq, allOneR_eq l]; rfl
def lenR : List XV → Nat := List.rec (motive := fun _ => Nat) 0 (fun _ _ ih => Nat.succ ih)
theorem lenR_eq : ∀ (l : List XV), lenR l = lenX l
  | [] => rfl
  | x :: l => by show Nat.succ (lenR l) = _; rw [lenR_eq l]; rfl
def objK (ver : Nat) (x : XO) : Option XO := Bool.rec (motive := fun _ => Option XO) none (some x) (Nat.beq x.ver ver)
def objR (H : XH) (o ver : Nat) : Option XO := Option.rec (motive := fun _ => Nat → Option XO) (fun _ => none) (fun x ver => objK ver x) (H.t.getR o) ver
theorem objR_eq (H : XH) (o ver : Nat) : objR H o ver = H.obj o ver := by
  unfold objR XH.obj
  rw [Tr.getR_eq]
  cases H.t.get o with
  | none => rfl
  | some x => show objK ver x = (bif Nat.beq x.ver ver then some x else none); unfold objK; rw [brec]
def pvR (H : XH) (x : Option XV) : XR := Option.rec (motive := fun _ => XH → XR) (fun _ => none) (fun v H => some (v, H, [], none)) x H
theorem pvR_eq (H : XH) (x : Option XV) : pvR H x = pvx H x := by cases x <;> rfl
/-- A heap is written, then the rest. -/
def putR {α : Type} (H : XH) (o : Nat) (x : XO) (k : XH → α) : α := XH.rec (motive := fun _ => α) (fun nx t fs => Tr.lookR (Tr.setR t o x) fun t' => k ⟨nx, t', fs⟩) H
theorem putR_eq {α : Type} (H : XH) (o : Nat) (x : XO) (k : XH → α) : putR H o x k = k (H.put o x) := by
  cases H with
  | mk nx t fs => show Tr.lookR (Tr.setR t o x) (fun t' => k ⟨nx, t', fs⟩) = _; rw [Tr.lookR_eq, Tr.setR_eq]; unfold XH.put; rw [Tr.look_eq]
def newR (H : XH) (cs : List XV) (v : Nat → XV) (rd : List Nat) : XR := XH.rec (motive := fun _ => XR) (fun nx t fs => Tr.lookR (Tr.setR t nx ⟨0, lenR cs, Tr.setLR cs .e 0⟩) fun t' => some (v nx, ⟨Nat.succ nx, t', fs⟩, rd, some nx)) H
theorem newR_eq (H : XH) (cs : List XV) (v : Nat → XV) (rd : List Nat) : newR H cs v rd = H.new cs (lenX cs) (v H.nx) rd := by
  cases H with
  | mk nx t fs => show Tr.lookR (Tr.setR t nx ⟨0, lenR cs, Tr.setLR cs .e 0⟩) (fun t' => some (v nx, (⟨Nat.succ nx, t', fs⟩ : XH), rd, some nx)) = _; unfold XH.new; rw [Tr.lookR_eq, Tr.setR_eq, Tr.look_eq, Tr.setLR_eq, lenR_eq]
def xNewR (cs : List XV) (H : XH) : XR := newR H cs (fun nx => .ptr nx 0 0) []
theorem xNewR_eq (cs : List XV) (H : XH) : xNewR cs H = xNew cs H := newR_eq _ _ _ _
def ldNone (off o : Nat) (H : XH) (ob : XO) : XR := Bool.rec (motive := fun _ => XR) none (Option.rec (motive := fun _ => XR) none (fun v => some (v, H, [o], none)) (ob.t.getR off)) (Nat.blt off ob.n)
def ldSome (n off o : Nat) (H : XH) (ob : XO) : XR := Bool.rec (motive := fun _ => XR) none (Option.rec (motive := fun _ => XR) none (fun l => some (.agg l, H, [o], none)) (ob.t.rdR n off)) (Nat.ble (Nat.add off n) ob.n)
def ldR (sh : Option Nat) (off o : Nat) (H : XH) (ob : Option XO) : XR :=
  Option.rec (motive := fun _ => Option Nat → Nat → Nat → XH → XR) (fun _ _ _ _ => none) (fun ob sh off o H => Option.rec (motive := fun _ => Nat → Nat → XH → XO → XR) ldNone ldSome sh off o H ob) ob sh off o H

def xLoadR : XV → Option Nat → XH → XR := XV.rec (motive_1 := fun _ => Option Nat → XH → XR) (motive_2 := fun _ => Unit) (fun _ _ => fun _ _ => none) (fun _ _ => fun _ _ => none) (fun _ => fun _ _ => none) (fun _ => fun _ _ => none) (fun _ _ => none) (fun o ver off => fun sh H => ldR sh off o H (objR H o ver)) (fun cs off _ => fun sh H => pvR H (xPart sh cs off)) (fun _ _ => none) (fun _ _ _ _ => fun _ _ => none) (fun _ _ _ _ _ => fun _ _ => none) (fun _ _ _ _ => fun _ _ => none) (fun _ => fun _ _ => none) (fun _ _ => fun _ _ => none) (fun _ _ => fun _ _ => none) (fun _ _ => none) (fun _ _ _ _ _ => fun _ _ => none) (fun _ _ => none) (fun _ _ _ => fun _ _ => none) (fun _ => fun _ _ => none) (fun _ _ => none) () (fun _ _ _ _ => ())
theorem xLoadR_eq (x : XV) (sh : Option Nat) (H : XH) : xLoadR x sh H = xLoad sh x H := by
  cases x <;> try rfl
  · rename_i o ver off
    show ldR sh off o H (objR H o ver) = _
    rw [objR_eq]
    unfold xLoad
    simp only
    cases H.obj o ver with
    | none => rfl
    | some ob =>
      cases sh with
      | none =>
        show ldNone off o H ob = (bif Nat.blt off ob.n then (match ob.t.get off with | some v => some (v, H, [o], none) | none => none) else none)
        unfold ldNone
        rw [brec, Tr.getR_eq]
        cases ob.t.get off <;> rfl
      | some n =>
        show ldSome n off o H ob = (bif Nat.ble (off + n) ob.n then (match ob.t.rd n off with | some l => some (.agg l, H, [o], none) | none => none) else none)
        unfold ldSome
        rw [brec, Tr.rdR_eq]
        cases ob.t.rd n off <;> rfl
  · exact pvR_eq _ _
def stK (n off o ver : Nat) (cs : List XV) (H : XH) (ob : XO) : XR := XO.rec (motive := fun _ => XR) (fun _ m t => Bool.rec (motive := fun _ => XR) none (Tr.lookR (Tr.setLR cs t off) fun t => putR H o ⟨ver, m, t⟩ fun H' => some (.tup [], H', [], some o)) (andR (Nat.beq (lenR cs) n) (andR (Nat.ble (Nat.add off n) m) (allOneR cs)))) ob
def stOR (n off o ver : Nat) (cs : List XV) (H : XH) (ob : Option XO) : XR := Option.rec (motive := fun _ => XR) none (fun ob => stK n off o ver cs H ob) ob
def xStoreR : XV → Nat → XV → XH → XR := XV.rec (motive_1 := fun _ => Nat → XV → XH → XR) (motive_2 := fun _ => Unit) (fun _ _ => fun _ _ _ => none) (fun _ _ => fun _ _ _ => none) (fun _ => fun _ _ _ => none) (fun _ => fun _ _ _ => none) (fun _ _ _ => none) (fun o ver off => fun n x H => stOR n off o ver (cellsR x) H (objR H o ver)) (fun _ _ _ => fun _ _ _ => none) (fun _ _ _ => none) (fun _ _ _ _ => fun _ _ _ => none) (fun _ _ _ _ _ => fun _ _ _ => none) (fun _ _ _ _ => fun _ _ _ => none) (fun _ => fun _ _ _ => none) (fun _ _ => fun _ _ _ => none) (fun _ _ => fun _ _ _ => none) (fun _ _ _ => none) (fun _ _ _ _ _ => fun _ _ _ => none) (fun _ _ _ => none) (fun _ _ _ => fun _ _ _ => none) (fun _ => fun _ _ _ => none) (fun _ _ _ => none) () (fun _ _ _ _ => ())
theorem xStoreR_eq (a : XV) (n : Nat) (x : XV) (H : XH) : xStoreR a n x H = xStore n a x H := by
  cases a <;> try rfl
  rename_i o ver off
  show stOR n off o ver (cellsR x) H (objR H o ver) = _
  rw [objR_eq, cellsR_eq]
  unfold xStore
  simp only
  cases H.obj o ver with
  | none => rfl
  | some ob =>
    show stK n off o ver x.cells H ob = (bif Nat.beq (lenX x.cells) n && (Nat.ble (off + n) ob.n && allOne x.cells) then (Tr.setL x.cells ob.t off).look fun t => some (.tup [], H.put o ⟨ver, ob.n, t⟩, [], some o) else none)
    cases ob with
    | mk v m t =>
      show (Bool.rec (motive := fun _ => XR) none (Tr.lookR (Tr.setLR x.cells t off) fun t => putR H o ⟨ver, m, t⟩ fun H' => some (.tup [], H', [], some o)) (andR (Nat.beq (lenR x.cells) n) (andR (Nat.ble (Nat.add off n) m) (allOneR x.cells))) : XR) = _
      rw [brec, Tr.lookR_eq, Tr.setLR_eq, putR_eq, andR_eq, andR_eq, lenR_eq, allOneR_eq, Tr.look_eq]
      rfl
def xNchkR : XV → Option XV := XV.rec (motive_1 := fun _ => Option XV) (motive_2 := fun _ => Unit) (fun _ _ => none) (fun _ _ => none) (fun _ => none) (fun _ => none) (none) (fun o ver off => some (.ptr o ver off)) (fun cs off _ => some (.cptr cs off)) (none) (fun _ _ _ _ => none) (fun _ _ _ _ _ => none) (fun _ _ _ _ => none) (fun _ => none) (fun _ _ => none) (fun _ _ => none) (none) (fun f first caps _ _ => xNchk (.fn f first caps)) (none) (fun t v _ => some (.iface t v)) (fun _ => none) (none) () (fun _ _ _ _ => ())
theorem xNchkR_eq (x : XV) : xNchkR x = xNchk x := by cases x <;> rfl
def xFadR : XV → Nat → Option XV := XV.rec (motive_1 := fun _ => Nat → Option XV) (motive_2 := fun _ => Unit) (fun _ _ => fun _ => none) (fun _ _ => fun _ => none) (fun _ => fun _ => none) (fun _ => fun _ => none) (fun _ => none) (fun o ver off => fun fo => some (.ptr o ver (Nat.add off fo))) (fun cs off _ => fun fo => some (.cptr cs (Nat.add off fo))) (fun _ => none) (fun _ _ _ _ => fun _ => none) (fun _ _ _ _ _ => fun _ => none) (fun _ _ _ _ => fun _ => none) (fun _ => fun _ => none) (fun _ _ => fun _ => none) (fun _ _ => fun _ => none) (fun _ => none) (fun _ _ _ _ _ => fun _ => none) (fun _ => none) (fun _ _ _ => fun _ => none) (fun _ => fun _ => none) (fun _ => none) () (fun _ _ _ _ => ())
theorem xFadR_eq (x : XV) (fo : Nat) : xFadR x fo = xFad fo x := by cases x <;> rfl
def kindN : IntKind → Nat := IntKind.rec (motive := fun _ => Nat) 0 1 2 3 4 5 6 7
def keqR (a b : IntKind) : Bool := Nat.beq (kindN a) (kindN b)
theorem keqR_eq (a b : IntKind) : keqR a b = keq a b := by cases a <;> cases b <;> rfl
def limUR : IntKind → Nat := IntKind.rec (motive := fun _ => Nat) 128 32768 2147483648 9223372036854775808 256 65536 4294967296 18446744073709551616
def limSR : IntKind → Nat := IntKind.rec (motive := fun _ => Nat) 128 32768 2147483648 9223372036854775808 0 0 0 0
theorem limUR_eq (k : IntKind) : limUR k = limU k := by cases k <;> rfl
theorem limSR_eq (k : IntKind) : limSR k = limS k := by cases k <;> rfl
def wrapR (k : IntKind) (n : Int) : Int := Int.rec (motive := fun _ => IntKind → Int)
  (fun m k => Bool.rec (motive := fun _ => Int) (k.wrap (.ofNat m)) (.ofNat m) (Nat.blt m (limUR k)))
  (fun m k => Bool.rec (motive := fun _ => Int) (k.wrap (.negSucc m)) (.negSucc m) (Nat.blt m (limSR k))) n k
theorem wrapR_eq (k : IntKind) (n : Int) : wrapR k n = wrapX k n := by
  cases n with
  | ofNat m =>
    show (Bool.rec (motive := fun _ => Int) (k.wrap (.ofNat m)) (.ofNat m) (Nat.blt m (limUR k)) : Int) = _
    rw [brec, limUR_eq]; rfl
  | negSucc m =>
    show (Bool.rec (motive := fun _ => Int) (k.wrap (.negSucc m)) (.negSucc m) (Nat.blt m (limSR k)) : Int) = _
    rw [brec, limSR_eq]; rfl
def ieqR (x y : Int) : Bool := Int.rec (motive := fun _ => Int → Bool) (fun a y => Int.rec (motive := fun _ => Nat → Bool) (fun b a => Nat.beq a b) (fun _ _ => false) y a) (fun a y => Int.rec (motive := fun _ => Nat → Bool) (fun _ _ => false) (fun b a => Nat.beq a b) y a) x y
theorem ieqR_eq (x y : Int) : ieqR x y = ieq x y := by cases x <;> cases y <;> rfl
def ileR (x y : Int) : Bool := Int.rec (motive := fun _ => Int → Bool) (fun a y => Int.rec (motive := fun _ => Nat → Bool) (fun b a => Nat.ble a b) (fun _ _ => false) y a) (fun a y => Int.rec (motive := fun _ => Nat → Bool) (fun _ _ => true) (fun b a => Nat.ble b a) y a) x y
theorem ileR_eq (x y : Int) : ileR x y = ile x y := by cases x <;> cases y <;> rfl
def notR : Bool → Bool := Bool.rec (motive := fun _ => Bool) true false
theorem notR_eq (b : Bool) : notR b = !b := by cases b <;> rfl
def iaddR (x y : Int) : Int := Int.rec (motive := fun _ => Int → Int) (fun a y => Int.rec (motive := fun _ => Nat → Int) (fun b a => .ofNat (Nat.add a b)) (fun b a => Int.add (.ofNat a) (.negSucc b)) y a) (fun a y => Int.add (.negSucc a) y) x y
theorem iaddR_eq (x y : Int) : iaddR x y = x + y := by cases x <;> cases y <;> rfl
def isubR (x y : Int) : Int := Int.rec (motive := fun _ => Int → Int) (fun a y => Int.rec (motive := fun _ => Nat → Int) (fun b a => Bool.rec (motive := fun _ => Int) (Int.sub (.ofNat a) (.ofNat b)) (.ofNat (Nat.sub a b)) (Nat.ble b a)) (fun b a => Int.sub (.ofNat a) (.negSucc b)) y a) (fun a y => Int.sub (.negSucc a) y) x y
theorem isubR_eq (x y : Int) : isubR x y = x - y := by
  cases x with
  | negSucc a => cases y <;> rfl
  | ofNat a =>
    cases y with
    | negSucc b => rfl
    | ofNat b =>
      show (Bool.rec (motive := fun _ => Int) (Int.sub (.ofNat a) (.ofNat b)) (.ofNat (Nat.sub a b)) (Nat.ble b a) : Int) = _
      cases h : Nat.ble b a
      · rfl
      · have := Nat.le_of_ble_eq_true h
        show (Int.ofNat (a - b)) = _
        simp only [Int.ofNat_eq_natCast]; omega
def imulR (x y : Int) : Int := Int.rec (motive := fun _ => Int → Int) (fun a y => Int.rec (motive := fun _ => Nat → Int) (fun b a => .ofNat (Nat.mul a b)) (fun b a => Int.mul (.ofNat a) (.negSucc b)) y a) (fun a y => Int.mul (.negSucc a) y) x y
theorem imulR_eq (x y : Int) : imulR x y = x * y := by cases x <;> cases y <;> rfl
def intBR : BinOp → IntKind → Int → IntKind → Int → Option XV := BinOp.rec (motive := fun _ => IntKind → Int → IntKind → Int → Option XV) (fun k a k2 b => Bool.rec (motive := fun _ => Option XV) none (some (.int k (wrapR k (iaddR a b)))) (keqR k k2)) (fun k a k2 b => Bool.rec (motive := fun _ => Option XV) none (some (.int k (wrapR k (isubR a b)))) (keqR k k2)) (fun k a k2 b => Bool.rec (motive := fun _ => Option XV) none (some (.int k (wrapR k (imulR a b)))) (keqR k k2)) (fun k a k2 b => Bool.rec (motive := fun _ => Option XV) none (intX .quo k a b) (keqR k k2)) (fun k a k2 b => Bool.rec (motive := fun _ => Option XV) none (intX .rem k a b) (keqR k k2)) (fun k a k2 b => Bool.rec (motive := fun _ => Option XV) none (intX .and k a b) (keqR k k2)) (fun k a k2 b => Bool.rec (motive := fun _ => Option XV) none (intX .or k a b) (keqR k k2)) (fun k a k2 b => Bool.rec (motive := fun _ => Option XV) none (intX .xor k a b) (keqR k k2)) (fun k a _ b => shX .shl k a b) (fun k a _ b => shX .shr k a b) (fun k a k2 b => Bool.rec (motive := fun _ => Option XV) none (intX .andNot k a b) (keqR k k2)) (fun k a k2 b => Bool.rec (motive := fun _ => Option XV) none (some (.bool (ieqR a b))) (keqR k k2)) (fun k a k2 b => Bool.rec (motive := fun _ => Option XV) none (some (.bool (notR (ieqR a b)))) (keqR k k2)) (fun k a k2 b => Bool.rec (motive := fun _ => Option XV) none (some (.bool (notR (ileR b a)))) (keqR k k2)) (fun k a k2 b => Bool.rec (motive := fun _ => Option XV) none (some (.bool (ileR a b))) (keqR k k2)) (fun k a k2 b => Bool.rec (motive := fun _ => Option XV) none (some (.bool (notR (ileR a b)))) (keqR k k2)) (fun k a k2 b => Bool.rec (motive := fun _ => Option XV) none (some (.bool (ileR b a))) (keqR k k2))
theorem intBR_eq (fs : List (SE × Nat)) (c : EqC) (op : BinOp) (k k2 : IntKind) (a b : Int) : intBR op k a k2 b = xBin fs c op (.int k a) (.int k2 b) := by
  cases op <;> first
    | rfl
    | (simp only [intBR, keqR_eq, wrapR_eq, iaddR_eq, isubR_eq, imulR_eq, ieqR_eq, ileR_eq, notR_eq, xBin]
       cases keq k k2 <;> rfl)
def binIR : XV → List (SE × Nat) → EqC → BinOp → IntKind → Int → Option XV := XV.rec (motive_1 := fun _ => List (SE × Nat) → EqC → BinOp → IntKind → Int → Option XV) (motive_2 := fun _ => Unit) (fun k n => fun fs c op k1 a => intBR op k1 a k n) (fun k e => fun fs c op k1 a => xBin fs c op (.int k1 a) (.sym k e)) (fun b => fun fs c op k1 a => xBin fs c op (.int k1 a) (.bool b)) (fun s => fun fs c op k1 a => xBin fs c op (.int k1 a) (.str s)) (fun fs c op k1 a => xBin fs c op (.int k1 a) (.nilp)) (fun o ver off => fun fs c op k1 a => xBin fs c op (.int k1 a) (.ptr o ver off)) (fun cs off _ => fun fs c op k1 a => xBin fs c op (.int k1 a) (.cptr cs off)) (fun fs c op k1 a => xBin fs c op (.int k1 a) (.nils)) (fun ex sz xs _ => fun fs c op k1 a => xBin fs c op (.int k1 a) (.sl ex sz xs)) (fun o ver off n esh => fun fs c op k1 a => xBin fs c op (.int k1 a) (.ref o ver off n esh)) (fun ex sz xs _ => fun fs c op k1 a => xBin fs c op (.int k1 a) (.slt ex sz xs)) (fun n => fun fs c op k1 a => xBin fs c op (.int k1 a) (.lenT n)) (fun cs _ => fun fs c op k1 a => xBin fs c op (.int k1 a) (.agg cs)) (fun vs _ => fun fs c op k1 a => xBin fs c op (.int k1 a) (.tup vs)) (fun fs c op k1 a => xBin fs c op (.int k1 a) (.nilf)) (fun f first caps _ _ => fun fs c op k1 a => xBin fs c op (.int k1 a) (.fn f first caps)) (fun fs c op k1 a => xBin fs c op (.int k1 a) (.nili)) (fun t v _ => fun fs c op k1 a => xBin fs c op (.int k1 a) (.iface t v)) (fun x => fun fs c op k1 a => xBin fs c op (.int k1 a) (.lit x)) (fun fs c op k1 a => xBin fs c op (.int k1 a) (.junk)) () (fun _ _ _ _ => ())
theorem binIR_eq (y : XV) (fs : List (SE × Nat)) (c : EqC) (op : BinOp) (k : IntKind) (a : Int) : binIR y fs c op k a = xBin fs c op (.int k a) y := by
  cases y <;> first | rfl | exact intBR_eq _ _ _ _ _ _ _
def xBinR : XV → List (SE × Nat) → EqC → BinOp → XV → Option XV := XV.rec (motive_1 := fun _ => List (SE × Nat) → EqC → BinOp → XV → Option XV) (motive_2 := fun _ => Unit) (fun k n => fun fs c op y => binIR y fs c op k n) (fun k e => fun fs c op y => xBin fs c op (.sym k e) y) (fun b => fun fs c op y => xBin fs c op (.bool b) y) (fun s => fun fs c op y => xBin fs c op (.str s) y) (fun fs c op y => xBin fs c op (.nilp) y) (fun o ver off => fun fs c op y => xBin fs c op (.ptr o ver off) y) (fun cs off _ => fun fs c op y => xBin fs c op (.cptr cs off) y) (fun fs c op y => xBin fs c op (.nils) y) (fun ex sz xs _ => fun fs c op y => xBin fs c op (.sl ex sz xs) y) (fun o ver off n esh => fun fs c op y => xBin fs c op (.ref o ver off n esh) y) (fun ex sz xs _ => fun fs c op y => xBin fs c op (.slt ex sz xs) y) (fun n => fun fs c op y => xBin fs c op (.lenT n) y) (fun cs _ => fun fs c op y => xBin fs c op (.agg cs) y) (fun vs _ => fun fs c op y => xBin fs c op (.tup vs) y) (fun fs c op y => xBin fs c op (.nilf) y) (fun f first caps _ _ => fun fs c op y => xBin fs c op (.fn f first caps) y) (fun fs c op y => xBin fs c op (.nili) y) (fun t v _ => fun fs c op y => xBin fs c op (.iface t v) y) (fun x => fun fs c op y => xBin fs c op (.lit x) y) (fun fs c op y => xBin fs c op (.junk) y) () (fun _ _ _ _ => ())
theorem xBinR_eq (x : XV) (fs : List (SE × Nat)) (c : EqC) (op : BinOp) (y : XV) : xBinR x fs c op y = xBin fs c op x y := by
  cases x <;> first | rfl | exact binIR_eq _ _ _ _ _ _
def refIadR (o ver off m : Nat) (e esh : Option Nat) (n : Nat) : Option XV := Bool.rec (motive := fun _ => Option XV) none (some (.ptr o ver (Nat.add off (Nat.mul n (szX esh))))) (andR (oeq e esh) (Nat.blt n m))
def arrIadR (o ver off len : Nat) (esh : Option Nat) (n : Nat) : Option XV := Bool.rec (motive := fun _ => Option XV) none (some (.ptr o ver (Nat.add off (Nat.mul n (szX esh))))) (Nat.blt n len)
def iadK : XV → Option Nat → Option Nat → Nat → Option XV := XV.rec (motive_1 := fun _ => Option Nat → Option Nat → Nat → Option XV) (motive_2 := fun _ => Unit) (fun _ _ => fun _ _ _ => none) (fun _ _ => fun _ _ _ => none) (fun _ => fun _ _ _ => none) (fun _ => fun _ _ _ => none) (fun _ _ _ => none) (fun o ver off => fun arr es i => Option.rec (motive := fun _ => Nat → Nat → Nat → Option Nat → Nat → Option XV) (fun _ _ _ _ _ => none) (fun len o ver off es i => arrIadR o ver off len es i) arr o ver off es i) (fun cs off _ => fun arr es i => xIad arr es (.cptr cs off) (.int .i64 (.ofNat i))) (fun _ _ _ => none) (fun ex sz xs _ => fun arr es i => xIad arr es (.sl ex sz xs) (.int .i64 (.ofNat i))) (fun o ver off n esh => fun arr es i => Option.rec (motive := fun _ => Nat → Nat → Nat → Nat → Option Nat → Option Nat → Nat → Option XV) refIadR (fun _ _ _ _ _ _ _ _ => none) arr o ver off n esh es i) (fun _ _ _ _ => fun _ _ _ => none) (fun _ => fun _ _ _ => none) (fun _ _ => fun _ _ _ => none) (fun _ _ => fun _ _ _ => none) (fun _ _ _ => none) (fun _ _ _ _ _ => fun _ _ _ => none) (fun _ _ _ => none) (fun _ _ _ => fun _ _ _ => none) (fun _ => fun _ _ _ => none) (fun _ _ _ => none) () (fun _ _ _ _ => ())
theorem iadK_eq (x : XV) (k : IntKind) (arr esh : Option Nat) (i : Nat) : iadK x arr esh i = xIad arr esh x (.int k (.ofNat i)) := by
  cases x <;> cases arr <;> try rfl
  · rename_i o ver off len
    show arrIadR o ver off len esh i = (bif Nat.blt i len then some (.ptr o ver (off + i * szX esh)) else none)
    unfold arrIadR
    rw [brec]; rfl
  · rename_i o ver off n e
    show refIadR o ver off n e esh i = (bif oeq e esh && Nat.blt i n then some (.ptr o ver (off + i * szX esh)) else none)
    unfold refIadR
    rw [brec, andR_eq]; rfl
def xIadR : XV → Option Nat → Option Nat → XV → Option XV := XV.rec (motive_1 := fun _ => Option Nat → Option Nat → XV → Option XV) (motive_2 := fun _ => Unit) (fun k n => fun arr esh x => Int.rec (motive := fun _ => Option Nat → Option Nat → XV → Option XV) (fun i arr esh x => iadK x arr esh i) (fun _ _ _ _ => none) n arr esh x) (fun _ _ => fun _ _ _ => none) (fun _ => fun _ _ _ => none) (fun _ => fun _ _ _ => none) (fun _ _ _ => none) (fun _ _ _ => fun _ _ _ => none) (fun _ _ _ => fun _ _ _ => none) (fun _ _ _ => none) (fun _ _ _ _ => fun _ _ _ => none) (fun _ _ _ _ _ => fun _ _ _ => none) (fun _ _ _ _ => fun _ _ _ => none) (fun _ => fun _ _ _ => none) (fun _ _ => fun _ _ _ => none) (fun _ _ => fun _ _ _ => none) (fun _ _ _ => none) (fun _ _ _ _ _ => fun _ _ _ => none) (fun _ _ _ => none) (fun _ _ _ => fun _ _ _ => none) (fun _ => fun _ _ _ => none) (fun _ _ _ => none) () (fun _ _ _ _ => ())
theorem xIadR_eq (i : XV) (arr esh : Option Nat) (x : XV) : xIadR i arr esh x = xIad arr esh x i := by
  cases i <;> try (unfold xIad; rfl)
  rename_i k n
  cases n with
  | ofNat n => exact iadK_eq x k arr esh n
  | negSucc n => unfold xIad; rfl
def lenSlR : XV → Option XV := XV.rec (motive_1 := fun _ => Option XV) (motive_2 := fun _ => Unit) (fun _ _ => none) (fun _ _ => none) (fun _ => none) (fun _ => none) (none) (fun _ _ _ => none) (fun _ _ _ => none) (some (.int .i64 (.ofNat 0))) (fun ex sz xs _ => some (.int .i64 (.ofNat (lenX xs)))) (fun o ver off n esh => some (.int .i64 (.ofNat n))) (fun ex sz xs _ => some (.lenT (lenX xs))) (fun _ => none) (fun _ _ => none) (fun _ _ => none) (none) (fun _ _ _ _ _ => none) (none) (fun _ _ _ => none) (fun _ => none) (none) () (fun _ _ _ _ => ())
theorem lenSlR_eq (x : XV) : lenSlR x = xLen .sl x := by cases x <;> rfl
def xLenR (c : LenC) (x : XV) : Option XV := LenC.rec (motive := fun _ => XV → Option XV) (fun x => xLen .str x) lenSlR (fun n x => xLen (.arr n) x) (fun x => xLen .map x) c x
theorem xLenR_eq (c : LenC) (x : XV) : xLenR c x = xLen c x := by
  cases c <;> first | rfl | exact lenSlR_eq x
def putXR : List XV → Nat → List XV → List XV := putX
def fillK (x : XV) (off size : Nat) (cs : List XV) (k : List XV → Option (List XV)) : Option (List XV) := Bool.rec (motive := fun _ => Option (List XV)) none (k (putX cs off (cellsR x))) (andR (njR x) (andR (Nat.beq (lenR (cellsR x)) size) (Nat.ble (Nat.add off size) (lenR cs))))
def fillR : List (Nat × Nat × XV) → List XV → Option (List XV) := List.rec (motive := fun _ => List XV → Option (List XV)) (fun cs => some cs) (fun p _ ih cs => fillK p.2.2 p.1 p.2.1 cs ih)
theorem fillR_eq : ∀ (ps : List (Nat × Nat × XV)) (cs : List XV), fillR ps cs = fillX cs ps
  | [], cs => rfl
  | (off, size, x) :: ps, cs => by
    show fillK x off size cs (fillR ps) = (bif x.nj && (Nat.beq (lenX x.cells) size && Nat.ble (off + size) (lenX cs)) then fillX (putX cs off x.cells) ps else none)
    unfold fillK
    rw [brec, andR_eq, andR_eq, njR_eq, lenR_eq, lenR_eq, cellsR_eq, fillR_eq ps]
    rfl
def aggO : Option (List XV) → Option XV := Option.rec (motive := fun _ => Option XV) none (fun l => some (.agg l))
def newSlR (esh : Option Nat) (n : Nat) (cs : List XV) (rd : List Nat) (H : XH) : XR := Bool.rec (motive := fun _ => XR) none (newR H cs (fun nx => .ref nx 0 0 n esh) rd) (andR (Nat.ble (Nat.mul n (szX esh)) (lenR cs)) (allOneR cs))
theorem newSlR_eq (esh : Option Nat) (n : Nat) (cs : List XV) (rd : List Nat) (H : XH) : newSlR esh n cs rd H = xNewSl esh n cs rd H := by
  unfold newSlR xNewSl
  rw [brec, andR_eq, lenR_eq, allOneR_eq, newR_eq]
  rfl
def bslO (esh : Option Nat) (len : Nat) (H : XH) : Option (List XV) → XR := Option.rec (motive := fun _ => XR) none (fun cs => newSlR esh len cs [] H)

/-! operations -/
def opYR (r : ROp) (F : XF) (H : XH) : XR := ROp.rec (motive := fun _ => XF → XH → XR)
  (fun x F H => some (evR F x, H, [], none))
  (fun c a b F H => opX (.pick c a b) F H)
  (fun cs F H => xNewR (XV.ofAVs cs) H)
  (fun x F H => Bool.rec (motive := fun _ => XR) none (xNewR (cellsR (evR F x)) H) (njR (evR F x)))
  (fun z ps F H => pvR H (aggO (fillR (evPR F ps) (XV.ofAVs z))))
  (fun esh z len ps F H => bslO esh len H (fillR (evPR F ps) (replX len (XV.ofAVs z))))
  (fun sh a F H => xLoadR (evR F a) sh H)
  (fun n a x F H => xStoreR (evR F a) n (evR F x) H)
  (fun x F H => pvR H (xNchkR (evR F x)))
  (fun c op x y F H => pvR H (xBinR (evR F x) H.fs c op (evR F y)))
  (fun ks op x y F H => opX (.eqs ks op x y) F H)
  (fun op x F H => opX (.un op x) F H)
  (fun k x F H => opX (.cint k x) F H)
  (fun x F H => opX (.cstr x) F H)
  (fun x F H => opX (.b2s x) F H)
  (fun x F H => opX (.s2b x) F H)
  (fun t x F H => some (.iface t (evR F x), H, [], none))
  (fun f a b F H => opX (.mkf f a b) F H)
  (fun esh bytes z l c F H => opX (.mksl esh bytes z l c) F H)
  (fun esh x lo hi mx F H => opX (.slc esh x lo hi mx) F H)
  (fun x lo hi F H => opX (.sls x lo hi) F H)
  (fun off x F H => pvR H (xFadR (evR F x) off))
  (fun arr esh x i F H => pvR H (xIadR (evR F i) arr esh (evR F x)))
  (fun x i F H => opX (.idxs x i) F H)
  (fun len sh x i F H => opX (.idxa len sh x i) F H)
  (fun i x F H => opX (.ext i x) F H)
  (fun off sh x F H => opX (.fld off sh x) F H)
  (fun c x F H => pvR H (xLenR c (evR F x)))
  (fun esh bytes s x F H => opX (.app esh bytes s x) F H)
  (fun esh s x F H => opX (.cpy esh s x) F H)
  (fun mx x y F H => opX (.mn mx x y) F H)
  (fun t x F H => opX (.tas t x) F H)
  (fun n esh x lo hi F H => opX (.slp n esh x lo hi) F H)
  (fun esh z x F H => opX (.clr esh z x) F H)
  r F H
theorem opYR_eq (r : ROp) (F : XF) (H : XH) : opYR r F H = opX r F H := by
  cases r <;> try rfl
  case mv x => show some (evR F x, H, [], none) = _; rw [evR_eq]; rfl
  case new cs => exact xNewR_eq _ _
  case box x =>
    show Bool.rec (motive := fun _ => XR) none (xNewR (cellsR (evR F x)) H) (njR (evR F x)) = _
    rw [evR_eq, njR_eq, cellsR_eq, xNewR_eq]
    show _ = (bif (evx F x).nj then xNew (evx F x).cells H else none)
    cases (evx F x).nj <;> rfl
  case build z ps =>
    show pvR H (aggO (fillR (evPR F ps) (XV.ofAVs z))) = _
    rw [pvR_eq, fillR_eq, evPR_eq]
    show pvx H (aggO (fillX (XV.ofAVs z) (evxP F ps))) = pvx H (xFill (XV.ofAVs z) (evxP F ps))
    unfold xFill
    cases fillX (XV.ofAVs z) (evxP F ps) <;> rfl
  case bsl esh z len ps =>
    show bslO esh len H (fillR (evPR F ps) (replX len (XV.ofAVs z))) = _
    rw [fillR_eq, evPR_eq]
    simp only [opX]
    cases fillX (replX len (XV.ofAVs z)) (evxP F ps) with
    | none => rfl
    | some cs => exact newSlR_eq _ _ _ _ _
  case load sh a => show xLoadR (evR F a) sh H = _; rw [evR_eq, xLoadR_eq]; rfl
  case store n a x => show xStoreR (evR F a) n (evR F x) H = _; rw [evR_eq, evR_eq, xStoreR_eq]; rfl
  case nchk x => show pvR H (xNchkR (evR F x)) = _; rw [evR_eq, xNchkR_eq, pvR_eq]; rfl
  case bin c op x y => show pvR H (xBinR (evR F x) H.fs c op (evR F y)) = _; rw [evR_eq, evR_eq, xBinR_eq, pvR_eq]; rfl
  case mki t x => show some (XV.iface t (evR F x), H, [], none) = _; rw [evR_eq]; rfl
  case fad off x => show pvR H (xFadR (evR F x) off) = _; rw [evR_eq, xFadR_eq, pvR_eq]; rfl
  case iad arr esh x i => show pvR H (xIadR (evR F i) arr esh (evR F x)) = _; rw [evR_eq, evR_eq, xIadR_eq, pvR_eq]; rfl
  case len c x => show pvR H (xLenR c (evR F x)) = _; rw [evR_eq, xLenR_eq, pvR_eq]; rfl

def grdR : XV → Bool → Option (XF × XH × List XL) → Option (XF × XH × List XL) → Option (XF × XH × List XL) := XV.rec (motive_1 := fun _ => Bool → Option (XF × XH × List XL) → Option (XF × XH × List XL) → Option (XF × XH × List XL)) (motive_2 := fun _ => Unit) (fun _ _ => fun _ _ _ => none) (fun _ _ => fun _ _ _ => none) (fun b => fun want yes no => Bool.rec (motive := fun _ => Option (XF × XH × List XL)) no yes (beqB b want)) (fun _ => fun _ _ _ => none) (fun _ _ _ => none) (fun _ _ _ => fun _ _ _ => none) (fun _ _ _ => fun _ _ _ => none) (fun _ _ _ => none) (fun _ _ _ _ => fun _ _ _ => none) (fun _ _ _ _ _ => fun _ _ _ => none) (fun _ _ _ _ => fun _ _ _ => none) (fun _ => fun _ _ _ => none) (fun _ _ => fun _ _ _ => none) (fun vs _ => fun _ _ no => List.rec (motive := fun _ => Option (XF × XH × List XL)) no (fun _ _ _ => none) vs) (fun _ _ _ => none) (fun _ _ _ _ _ => fun _ _ _ => none) (fun _ _ _ => none) (fun _ _ _ => fun _ _ _ => none) (fun _ => fun _ _ _ => none) (fun _ _ _ => none) () (fun _ _ _ _ => ())
/-! code -/
abbrev XS := Option (XV × XH × XL)
def eff3 (H : XH) : Option (XV × XH) → XS := Option.rec (motive := fun _ => XS) none (fun q => Prod.rec (motive := fun _ => XS) (fun v H' => some (v, H', .eff H H')) q)
def rd3 (H : XH) (els : XS) : Option (XV × List Nat) → XS := Option.rec (motive := fun _ => XS) els (fun q => Prod.rec (motive := fun _ => XS) (fun v M => some (v, H, .acc M none)) q)
def callR (call : XCall) (rd : XRd) (dr : Bool) (f : FuncId) (args : List XV) (H : XH) : XS :=
  Bool.rec (motive := fun _ => XS) (eff3 H (call f args H)) (rd3 H (eff3 H (call f args H)) (rd f args H)) dr
theorem callR_eq (call : XCall) (rd : XRd) (dr : Bool) (f : FuncId) (args : List XV) (H : XH) : callR call rd dr f args H = callX call rd dr f args H := by
  have e : ∀ x : Option (XV × XH), eff3 H x = (match x with | none => none | some (v, H') => some (v, H', .eff H H')) := fun x => by cases x <;> rfl
  unfold callR callX
  rw [e]
  cases dr
  · rfl
  · simp only [cond_true]
    show rd3 H _ (rd f args H) = _
    cases rd f args H <;> rfl
def accR (rd : List Nat) (wr : Option Nat) : XL := Option.rec (motive := fun _ => List Nat → XL) (fun rd => .acc rd none) (fun o rd => .acc (o :: rd) (some o)) wr rd
def un4 {α : Type} (k : XV → XH → List Nat → Option Nat → α) (q : XV × XH × List Nat × Option Nat) : α := Prod.rec (motive := fun _ => α) (fun v r => Prod.rec (motive := fun _ => α) (fun H r => Prod.rec (motive := fun _ => α) (fun rd wr => k v H rd wr) r) r) q
def un3 {β γ α : Type} (k : XV → β → γ → α) (q : XV × β × γ) : α := Prod.rec (motive := fun _ => α) (fun v r => Prod.rec (motive := fun _ => α) (fun H le => k v H le) r) q
def unE {α : Type} (k : XE → XF → XH → α) (q : XE × XF × XH) : α := Prod.rec (motive := fun _ => α) (fun v r => Prod.rec (motive := fun _ => α) (fun F H => k v F H) r) q
def op3 : XR → XS := Option.rec (motive := fun _ => XS) none (un4 fun v H rd wr => some (v, H, accR rd wr))
def stepR (P : Program) (call : XCall) (rd : XRd) (dr : Bool) (c : RC) (F : XF) (H : XH) : XS :=
  RC.rec (motive := fun _ => Program → XCall → XRd → Bool → XF → XH → XS)
    (fun r P call rd dr F H => op3 (opYR r F H))
    (fun f args P call rd dr F H => callR call rd dr f (evLR F args) H)
    (fun x args P call rd dr F H => stepX P call rd dr (.callv x args) F H)
    (fun x m args P call rd dr F H => stepX P call rd dr (.inv x m args) F H) c P call rd dr F H
theorem stepR_eq (P : Program) (call : XCall) (rd : XRd) (dr : Bool) (c : RC) (F : XF) (H : XH) : stepR P call rd dr c F H = stepX P call rd dr c F H := by
  cases c with
  | op r =>
    show op3 (opYR r F H) = _
    rw [opYR_eq]
    simp only [stepX]
    cases opX r F H with
    | none => rfl
    | some q =>
      obtain ⟨v, H', rd', wr⟩ := q
      cases wr <;> rfl
  | call f args => show callR call rd dr f (evLR F args) H = _; rw [evLR_eq, callR_eq]; rfl
  | callv x args => rfl
  | inv x m args => rfl
abbrev XO3 := Option (XF × XH × List XL)
def lkF (F : XF) (k : XF → XO3) : XO3 := XF.rec (motive := fun _ => (XF → XO3) → XO3) (fun lo hi k => k ⟨lo, hi⟩) F k
theorem lkF_eq (F : XF) (k : XF → XO3) : lkF F k = k F := by cases F; rfl
def lookV : XV → (XV → XO3) → XO3 := XV.rec (motive_1 := fun _ => (XV → XO3) → XO3) (motive_2 := fun _ => Unit) (fun k n => fun kk => kk (.int k n)) (fun k e => fun kk => kk (.sym k e)) (fun b => fun kk => kk (.bool b)) (fun s => fun kk => kk (.str s)) (fun kk => kk (.nilp)) (fun o ver off => fun kk => kk (.ptr o ver off)) (fun cs off _ => fun kk => kk (.cptr cs off)) (fun kk => kk (.nils)) (fun ex sz xs _ => fun kk => kk (.sl ex sz xs)) (fun o ver off n esh => fun kk => kk (.ref o ver off n esh)) (fun ex sz xs _ => fun kk => kk (.slt ex sz xs)) (fun n => fun kk => kk (.lenT n)) (fun cs _ => fun kk => kk (.agg cs)) (fun vs _ => fun kk => kk (.tup vs)) (fun kk => kk (.nilf)) (fun f first caps _ _ => fun kk => kk (.fn f first caps)) (fun kk => kk (.nili)) (fun t v _ => fun kk => kk (.iface t v)) (fun x => fun kk => kk (.lit x)) (fun kk => kk (.junk)) () (fun _ _ _ _ => ())
theorem lookV_eq (v : XV) (k : XV → XO3) : lookV v k = k v := by cases v <;> rfl
def putFR (F : XF) (d : Option Nat) (v : XV) (k : XF → XO3) : XO3 := Option.rec (motive := fun _ => XF → XV → (XF → XO3) → XO3) (fun F _ k => k F) (fun d F v k => lookV v fun v => lkF (setR d v F) k) d F v k
theorem putFR_eq (F : XF) (d : Option Nat) (v : XV) (k : XF → XO3) : putFR F d v k = k (putXF F d v) := by
  cases d with
  | none => rfl
  | some d => show lookV v (fun v => lkF (setR d v F) k) = _; rw [lookV_eq, lkF_eq, setR_eq]; rfl
def goR (d : Option Nat) (F : XF) (log : List XL) (ih : XF → XH → List XL → XO3) : XS → XO3 := Option.rec (motive := fun _ => XO3) none (un3 fun v H le => putFR F d v fun F => ih F H (le :: log))
def opsR (P : Program) (call : XCall) (rd : XRd) (dr : Bool) : List ROper → XF → XH → List XL → XO3 :=
  List.rec (motive := fun _ => XF → XH → List XL → XO3) (fun F H log => some (F, H, log))
    (fun o _ ih F H log => Option.rec (motive := fun _ => XO3) (goR o.dst F log ih (stepR P call rd dr o.c F H))
      (fun g => grdR (atR F g.1) g.2 (goR o.dst F log ih (stepR P call rd dr o.c F H)) (putFR F o.dst (.tup []) fun F => ih F H (.acc [] none :: log))) o.guard)

theorem opsR_eq (P : Program) (call : XCall) (rd : XRd) (dr : Bool) : ∀ (rs : List ROper) (F : XF) (H : XH) (log : List XL), opsR P call rd dr rs F H log = opsX P call rd dr rs F H log
  | [], F, H, log => rfl
  | o :: rs, F, H, log => by
    have hgo : goR o.dst F log (opsR P call rd dr rs) (stepR P call rd dr o.c F H) = (match stepX P call rd dr o.c F H with | none => none | some (v, H', le) => opsX P call rd dr rs (putXF F o.dst v) H' (le :: log)) := by
      rw [stepR_eq]
      cases stepX P call rd dr o.c F H with
      | none => rfl
      | some q =>
        obtain ⟨v, H', le⟩ := q
        show putFR F o.dst v (fun F => opsR P call rd dr rs F H' (le :: log)) = _
        rw [putFR_eq, opsR_eq P call rd dr rs]
    have hno : (putFR F o.dst (.tup []) fun F => opsR P call rd dr rs F H (.acc [] none :: log)) = opsX P call rd dr rs (putXF F o.dst (.tup [])) H (.acc [] none :: log) := by
      rw [putFR_eq, opsR_eq P call rd dr rs]
    show Option.rec (motive := fun _ => XO3) (goR o.dst F log (opsR P call rd dr rs) (stepR P call rd dr o.c F H)) (fun g => grdR (atR F g.1) g.2 (goR o.dst F log (opsR P call rd dr rs) (stepR P call rd dr o.c F H)) (putFR F o.dst (.tup []) fun F => opsR P call rd dr rs F H (.acc [] none :: log))) o.guard = _
    rw [hgo, hno]
    simp only [opsX]
    cases o.guard with
    | none => rfl
    | some g =>
      obtain ⟨t, want⟩ := g
      show grdR (atR F t) want _ _ = _
      rw [atR_eq]
      simp only
      cases F.at t <;> try rfl
      · rename_i b
        show (Bool.rec (motive := fun _ => XO3) _ _ (beqB b want) : XO3) = _
        rw [brec]; rfl
      · rename_i vs
        cases vs <;> rfl
abbrev XK := XF → XH → XC
def seqR (k : XK) : XC → XC := Option.rec (motive := fun _ => XC) none (unE fun e F H => XE.rec (motive := fun _ => XF → XH → XC) (fun F H => k F H) (fun i F H => some (.exit i, F, H)) (fun F H => some (.ret, F, H)) e F H)
theorem seqR_eq (k : XK) (r : XC) : seqR k r = (match r with | some (.normal, F', H') => k F' H' | r => r) := by
  cases r with
  | none => rfl
  | some q =>
    obtain ⟨e, F, H⟩ := q
    cases e <;> rfl
def loopR (body : XK) : Nat → XK := Nat.rec (motive := fun _ => XK) (fun _ _ => none) (fun _ ih F H => seqR ih (body F H))
theorem loopR_eq (body : XK) : ∀ (n : Nat) (F : XF) (H : XH), loopR body n F H = loopX body n F H
  | 0, F, H => rfl
  | n + 1, F, H => by
    have h : loopR body n = loopX body n := by funext F H; exact loopR_eq body n F H
    show seqR (loopR body n) (body F H) = _
    rw [h, seqR_eq]; rfl
def blkR (id : Nat) : XC → XC := Option.rec (motive := fun _ => XC) none (unE fun e F H => XE.rec (motive := fun _ => XF → XH → XC) (fun F H => some (.normal, F, H)) (fun j F H => Bool.rec (motive := fun _ => XC) (some (.exit j, F, H)) (some (.normal, F, H)) (Nat.beq j id)) (fun F H => some (.ret, F, H)) e F H)
theorem blkR_eq (id : Nat) (r : XC) : blkR id r = (match r with | some (.exit j, F', H') => bif Nat.beq j id then some (.normal, F', H') else some (.exit j, F', H') | r => r) := by
  cases r with
  | none => rfl
  | some q =>
    obtain ⟨e, F, H⟩ := q
    cases e with
    | normal => rfl
    | ret => rfl
    | exit j =>
      show (Bool.rec (motive := fun _ => XC) _ _ (Nat.beq j id) : XC) = _
      rw [brec]
def un3F {α : Type} (k : XF → XH → List XL → α) (q : XF × XH × List XL) : α := Prod.rec (motive := fun _ => α) (fun F r => Prod.rec (motive := fun _ => α) (fun H l => k F H l) r) q
def endR : XO3 → XC := Option.rec (motive := fun _ => XC) none (un3F fun F H _ => some (.normal, F, H))
def endLR (ps : List (Nat × Nat)) : XO3 → XC := Option.rec (motive := fun _ => XC) none (un3F fun F H l => Bool.rec (motive := fun _ => XC) none (some (.normal, F, H)) (logX ps l.reverse))

def condR : XV → XK → XK → XK := XV.rec (motive_1 := fun _ => XK → XK → XK) (motive_2 := fun _ => Unit) (fun _ _ => fun _ _ _ _ => none) (fun _ _ => fun _ _ _ _ => none) (fun b => fun a c F H => Bool.rec (motive := fun _ => XC) (c F H) (a F H) b) (fun _ => fun _ _ _ _ => none) (fun _ _ _ _ => none) (fun _ _ _ => fun _ _ _ _ => none) (fun _ _ _ => fun _ _ _ _ => none) (fun _ _ _ _ => none) (fun _ _ _ _ => fun _ _ _ _ => none) (fun _ _ _ _ _ => fun _ _ _ _ => none) (fun _ _ _ _ => fun _ _ _ _ => none) (fun _ => fun _ _ _ _ => none) (fun _ _ => fun _ _ _ _ => none) (fun _ _ => fun _ _ _ _ => none) (fun _ _ _ _ => none) (fun _ _ _ _ _ => fun _ _ _ _ => none) (fun _ _ _ _ => none) (fun _ _ _ => fun _ _ _ _ => none) (fun _ => fun _ _ _ _ => none) (fun _ _ _ _ => none) () (fun _ _ _ _ => ())
def exR (P : Program) (call : XCall) (rd : XRd) : FC → XK :=
  FC.rec (motive := fun _ => XK) (fun F H => some (.normal, F, H))
    (fun rs pairs F H => List.rec (motive := fun _ => XC) (endR (opsR P call rd false rs F H [])) (fun p ps _ => endLR (p :: ps) (opsR P call rd true rs F H [])) pairs)
    (fun _ _ iha ihb F H => seqR ihb (iha F H))
    (fun c _ _ iha ihb F H => condR (evR F c) iha ihb F H)
    (fun id _ iha F H => blkR id (iha F H))
    (fun _ iha F H => loopR iha 1000000000 F H)
    (fun id F H => some (.exit id, F, H))
    (fun F H => some (.ret, F, H))
theorem exR_eq (P : Program) (call : XCall) (rd : XRd) (fc : FC) : ∀ (F : XF) (H : XH), exR P call rd fc F H = exX P call rd fc F H := by
  induction fc with
  | skip => intro F H; rfl
  | reg rs pairs =>
    intro F H
    cases pairs with
    | nil =>
      show endR (opsR P call rd false rs F H []) = _
      rw [opsR_eq]
      simp only [exX]
      cases opsX P call rd false rs F H [] <;> rfl
    | cons p ps =>
      show endLR (p :: ps) (opsR P call rd true rs F H []) = _
      rw [opsR_eq]
      simp only [exX]
      cases opsX P call rd true rs F H [] with
      | none => rfl
      | some q =>
        obtain ⟨F', H', log⟩ := q
        show (Bool.rec (motive := fun _ => XC) _ _ (logX (p :: ps) log.reverse) : XC) = _
        rw [brec]
  | seq a b iha ihb =>
    intro F H
    have hb : exR P call rd b = exX P call rd b := by funext F H; exact ihb F H
    show seqR (exR P call rd b) (exR P call rd a F H) = _
    rw [hb, iha, seqR_eq]; rfl
  | cond c a b iha ihb =>
    intro F H
    show condR (evR F c) (exR P call rd a) (exR P call rd b) F H = _
    rw [evR_eq]
    simp only [exX]
    cases evx F c <;> try rfl
    rename_i t
    show (Bool.rec (motive := fun _ => XC) (exR P call rd b F H) (exR P call rd a F H) t : XC) = _
    rw [iha, ihb, brec]
  | block i a iha =>
    intro F H
    show blkR i (exR P call rd a F H) = _
    rw [blkR_eq, iha]; rfl
  | loop a iha =>
    intro F H
    show loopR (exR P call rd a) 1000000000 F H = _
    have : exR P call rd a = exX P call rd a := by funext F H; exact iha F H
    rw [this, loopR_eq]; simp only [exX]
  | exit i => intro F H; rfl
  | ret => intro F H; rfl
def retO (H : XH) : Option XV → Option (XV × XH) := Option.rec (motive := fun _ => Option (XV × XH)) none (fun v => some (v, H))
def finR (ts : List RS) : XC → Option (XV × XH) := Option.rec (motive := fun _ => Option (XV × XH)) none (unE fun e F H => XE.rec (motive := fun _ => XF → XH → Option (XV × XH)) (fun F H => retO H (retX F H ts)) (fun _ _ _ => none) (fun F H => retO H (retX F H ts)) e F H)
def bodyR (P : Program) (ih : XCall) (args : List XV) (H : XH) : Option (Nat × List RS × FC) → Option (XV × XH) := Option.rec (motive := fun _ => Option (XV × XH)) none (fun q => Prod.rec (motive := fun _ => Option (XV × XH)) (fun n r => Prod.rec (motive := fun _ => Option (XV × XH)) (fun ts fc => Bool.rec (motive := fun _ => Option (XV × XH)) none (finR ts (exR P ih (rdCall P) fc (XF.ofL args .nil 0) H)) (Nat.ble (lenX args) n)) r) q)
def ovR (H : XH) (els : Option (XV × XH)) : Option (Option XV) → Option (XV × XH) := Option.rec (motive := fun _ => Option (XV × XH)) els (fun v => Option.rec (motive := fun _ => Option (XV × XH)) none (fun v => some (v, H)) v)
def runR (P : Program) (code : FuncId → Option (Nat × List RS × FC)) (ov : FuncId → List XV → Option (Option XV)) : Nat → XCall :=
  Nat.rec (motive := fun _ => XCall) (fun _ _ _ => none) (fun _ ih f args H => ovR H (bodyR P ih args H (code f)) (ov f args))
theorem runR_eq (P : Program) (code : FuncId → Option (Nat × List RS × FC)) (ov : FuncId → List XV → Option (Option XV)) : ∀ d, runR P code ov d = runX P code ov d := by
  intro d
  induction d with
  | zero => rfl
  | succ d ih =>
    funext f args H
    show ovR H (bodyR P (runR P code ov d) args H (code f)) (ov f args) = _
    rw [ih]
    simp only [runX]
    cases ov f args with
    | some v => cases v <;> rfl
    | none =>
      show bodyR P (runX P code ov d) args H (code f) = _
      simp only
      cases code f with
      | none => rfl
      | some q =>
        obtain ⟨n, ts, fc⟩ := q
        show (Bool.rec (motive := fun _ => Option (XV × XH)) none (finR ts (exR P (runX P code ov d) (rdCall P) fc (XF.ofL args .nil 0) H)) (Nat.ble (lenX args) n) : Option (XV × XH)) = _
        rw [exR_eq, brec]
        simp only
        cases Nat.ble (lenX args) n
        · rfl
        · show finR ts (exX P (runX P code ov d) (rdCall P) fc (XF.ofL args .nil 0) H) = _
          simp only [cond_true]
          cases exX P (runX P code ov d) (rdCall P) fc (XF.ofL args .nil 0) H with
          | none => rfl
          | some q =>
            obtain ⟨e, F', H'⟩ := q
            cases e with
            | exit i => rfl
            | normal => show retO H' (retX F' H' ts) = _; simp only; cases retX F' H' ts <;> rfl
            | ret => show retO H' (retX F' H' ts) = _; simp only; cases retX F' H' ts <;> rfl
end
end Go.Ab
/- Tables of code; what an evaluation in the kernel's form says of a law. -/
namespace Go.Ab
set_option linter.constructorNameAsVariable false
set_option linter.unusedSimpArgs false
set_option linter.unusedVariables false
open Go.RowKit
set_option linter.unusedVariables false
def allC (P : Program) : List (Nat × (Nat × List RS × FC)) → Prop
  | [] => True
  | p :: l => codeOf P p.1 = some p.2 ∧ allC P l
def tabT : List (Nat × (Nat × List RS × FC)) → Tr (Nat × List RS × FC)
  | [] => .e
  | p :: l => (tabT l).set p.1 p.2
def codeT (l : List (Nat × (Nat × List RS × FC))) (f : FuncId) : Option (Nat × List RS × FC) := (tabT l).get f
theorem codeT_eq {P : Program} : ∀ {l : List (Nat × (Nat × List RS × FC))}, allC P l → ∀ f x, codeT l f = some x → codeOf P f = some x
  | [], _, f, x, h => by simp [codeT, tabT] at h
  | p :: l, hl, f, x, h => by
    simp only [codeT, tabT, Tr.get_set] at h
    split at h
    · rename_i e; cases h; rw [e]; exact hl.1
    · exact codeT_eq hl.2 f x h
theorem codeT_ok {P : Program} {l : List (Nat × (Nat × List RS × FC))} (h : allC P l) : CodesOK P (codeT l) := fun f n ts fc e => codeOf_ok P f n ts fc (codeT_eq h f _ e)
def ov0 (_ : FuncId) (_ : List XV) : Option (Option XV) := none
theorem ov0_ok {ρ : Env} {P : Program} : OvOK ρ P ov0 := fun f args v h => by cases h
theorem law_R {P : Program} (ρ : Env) {fs : List (SE × Nat)} (hfs : FactsOK ρ fs) (hm : P.follows .mixedOrders = true) {l : List (Nat × (Nat × List RS × FC))} (hl : allC P l) {ov : FuncId → List XV → Option (Option XV)} (hov : OvOK ρ P ov) {d : Nat} {f : FuncId} {args : List XV} (h : isT (runR P (codeT l) ov d f args ⟨0, .e, fs⟩) = true) : PureEv P f (args.map (XV.av ρ)) (.bool true) := by
  rw [runR_eq] at h
  exact law_X ρ hfs hm (codeT_ok hl) hov h
/-- Function k, without arguments, is known to answer true. -/
def ovF (k : Nat) (f : FuncId) : List XV → Option (Option XV)
  | [] => bif Nat.beq f k then some (some (.bool true)) else none
  | _ :: _ => none
theorem ovF_ok {P : Program} {ρ : Env} {k : Nat} (h : PureEv P k [] (.bool true)) : OvOK ρ P (ovF k) := by
  intro f args v e σ
  cases args with
  | cons x r => cases e
  | nil =>
    obtain ⟨h1, h2⟩ := bif_some e
    cases h2
    have := Nat.eq_of_beq_eq_true h1
    subst this
    exact h.frame rfl rfl σ
/-- So many unknown numbers. -/
def symL (n : Nat) : List XV := (List.range n).map fun i => .sym .u64 (.var i)
theorem symL_av (l : List Int) (t : List AV) : ∀ n, n ≤ l.length → (symL n).map (XV.av ⟨fun i => l.getD i 0, t⟩) = (l.take n).map (avI .u64) := by
  intro n hn
  apply List.ext_getElem
  · simp [symL]; omega
  · intro i h1 h2
    have hi : i < l.length := by simp at h2; omega
    simp [symL, XV.av, SE.val, avI, List.getD_eq_getElem?_getD, hi]
theorem sym_len (l : List Int) : XV.av ⟨fun i => l.getD i 0, []⟩ (.sl false 1 (symL l.length)) = avL 1 (avI .u64) l := by
  simp only [XV.av, avs_eq, avL]
  rw [symL_av l [] _ (Nat.le_refl _), List.take_length]
theorem sym_long (l : List Int) (n : Nat) (h : n ≤ l.length) : XV.av ⟨fun i => l.getD i 0, (l.drop n).map (avI .u64)⟩ (.slt false 1 (symL n)) = avL 1 (avI .u64) l := by
  simp only [XV.av, avs_eq, avL]
  rw [symL_av l _ _ h, ← List.map_append, List.take_append_drop]
/-- A function without arguments that answers true, once for all. -/
theorem ov_true {P : Program} {ρ : Env} {f : FuncId} (h : PureEv P f [] (.bool true)) (σ : Hp) : Ev P f ([].map (XV.av ρ)) σ ((XV.bool true).av ρ) σ := h.frame rfl rfl σ
end Go.Ab
