/- core.M's Return: the walk. -/
import Derived.Test.YtnpemocpfdgaoaaSeW8
set_option linter.unusedVariables false
set_option linter.unusedSimpArgs false
namespace Go.Proofs.Ytnpemocpfdgaoaa
open Go Go.Ab
set_option maxRecDepth 20000
set_option maxHeartbeats 2000000
def c0W : FC := .reg [⟨(some 7), none, .op (.mv (.t 0))⟩,  ⟨(some 8), none, .op (.nchk (.t 7))⟩,  ⟨(some 9), none, .op (.fad 8 (.t 8))⟩,  ⟨(some 10), none, .op (.load none (.t 9))⟩,  ⟨(some 11), none, .op (.mv (.t 0))⟩,  ⟨(some 12), none, .op (.nchk (.t 11))⟩,  ⟨(some 13), none, .op (.fad 8 (.t 12))⟩,  ⟨(some 14), none, .op (.load none (.t 13))⟩,  ⟨(some 15), none, .op (.len .sl (.t 14))⟩,  ⟨(some 16), none, .op (.bin .none .sub (.t 15) (.v (.int .i64 1)))⟩,  ⟨(some 17), none, .op (.iad none none (.t 10) (.t 16))⟩,  ⟨(some 18), none, .op (.load none (.t 17))⟩,  ⟨(some 4), none, .op (.mv (.t 18))⟩] []
def c0X : FC := .reg [⟨(some 19), none, .op (.mv (.t 4))⟩,  ⟨(some 20), none, .op (.mv (.t 1))⟩,  ⟨(some 21), none, .op (.nchk (.t 19))⟩,  ⟨(some 22), none, .op (.fad 3 (.t 21))⟩,  ⟨none, none, .op (.store 1 (.t 22) (.t 20))⟩] []
def c0Y : FC := .reg [⟨(some 23), none, .op (.mv (.t 0))⟩,  ⟨(some 24), none, .call 157 [(.t 23), (.v (.int .i64 1))]⟩,  ⟨(some 25), none, .op (.un .not (.t 24))⟩] []
def c0Z : FC := .cond (.t 25) FC.skip (FC.exit 0)
def c1a : FC := .seq c0Y c0Z
def c1b : FC := .reg [⟨(some 26), none, .op (.mv (.t 0))⟩,  ⟨(some 27), none, .op (.mv (.t 0))⟩,  ⟨(some 28), none, .op (.nchk (.t 27))⟩,  ⟨(some 29), none, .op (.fad 8 (.t 28))⟩,  ⟨(some 30), none, .op (.load none (.t 29))⟩,  ⟨(some 31), none, .op (.mv (.t 0))⟩,  ⟨(some 32), none, .op (.nchk (.t 31))⟩,  ⟨(some 33), none, .op (.fad 8 (.t 32))⟩,  ⟨(some 34), none, .op (.load none (.t 33))⟩,  ⟨(some 35), none, .op (.len .sl (.t 34))⟩,  ⟨(some 36), none, .op (.bin .none .sub (.t 35) (.v (.int .i64 1)))⟩,  ⟨(some 37), none, .op (.slc none (.t 30) none (some (.t 36)) none)⟩,  ⟨(some 38), none, .op (.nchk (.t 26))⟩,  ⟨(some 39), none, .op (.fad 8 (.t 38))⟩,  ⟨none, none, .op (.store 1 (.t 39) (.t 37))⟩] []
def c1c : FC := .reg [⟨(some 40), none, .op (.mv (.t 0))⟩,  ⟨(some 41), none, .op (.nchk (.t 40))⟩,  ⟨(some 42), none, .op (.fad 8 (.t 41))⟩,  ⟨(some 43), none, .op (.load none (.t 42))⟩,  ⟨(some 44), none, .op (.len .sl (.t 43))⟩,  ⟨(some 45), none, .op (.bin .none .eql (.t 44) (.v (.int .i64 0)))⟩] []
def c1d : FC := .reg [⟨(some 46), none, .op (.mv (.t 0))⟩,  ⟨(some 47), none, .op (.build [(.int .i64 0), (.int .u64 0)] [(0, 1, (.v (.int .i64 1)))])⟩,  ⟨(some 48), none, .op (.nchk (.t 46))⟩,  ⟨(some 49), none, .op (.fad 2 (.t 48))⟩,  ⟨none, none, .op (.store 2 (.t 49) (.t 47))⟩] []
def c1e : FC := .seq c1d FC.ret
def b4Y : FC := .cond (.t 45) c1e FC.skip
def b4Z : FC := .seq c1c b4Y
def b5a : FC := .reg [⟨(some 50), none, .op (.mv (.t 0))⟩,  ⟨(some 51), none, .op (.nchk (.t 50))⟩,  ⟨(some 52), none, .op (.fad 8 (.t 51))⟩,  ⟨(some 53), none, .op (.load none (.t 52))⟩,  ⟨(some 54), none, .op (.mv (.t 0))⟩,  ⟨(some 55), none, .op (.nchk (.t 54))⟩,  ⟨(some 56), none, .op (.fad 8 (.t 55))⟩,  ⟨(some 57), none, .op (.load none (.t 56))⟩,  ⟨(some 58), none, .op (.len .sl (.t 57))⟩,  ⟨(some 59), none, .op (.bin .none .sub (.t 58) (.v (.int .i64 1)))⟩,  ⟨(some 60), none, .op (.iad none none (.t 53) (.t 59))⟩,  ⟨(some 61), none, .op (.load none (.t 60))⟩,  ⟨(some 5), none, .op (.mv (.t 61))⟩] []
def b5b : FC := .reg [⟨(some 62), none, .op (.mv (.t 4))⟩,  ⟨(some 63), none, .op (.nchk (.t 62))⟩,  ⟨(some 64), none, .op (.fad 1 (.t 63))⟩,  ⟨(some 65), none, .op (.load none (.t 64))⟩] []
def b5c : FC := .reg [⟨(some 67), none, .op (.bin .none .eql (.t 65) (.v (.int .i64 0)))⟩,  ⟨(some 66), none, .op (.mv (.t 67))⟩] []
def b5d : FC := .reg [⟨(some 68), none, .op (.mv (.t 5))⟩,  ⟨(some 69), none, .op (.nchk (.t 68))⟩,  ⟨(some 70), none, .op (.fad 0 (.t 69))⟩,  ⟨(some 71), none, .op (.load none (.t 70))⟩,  ⟨(some 72), none, .op (.mv (.t 4))⟩,  ⟨(some 73), none, .op (.nchk (.t 72))⟩,  ⟨(some 74), none, .op (.fad 3 (.t 73))⟩,  ⟨(some 75), none, .op (.load none (.t 74))⟩,  ⟨(some 76), none, .op (.nchk (.t 71))⟩,  ⟨(some 77), none, .op (.mv (.t 71))⟩,  ⟨(some 78), none, .inv (.t 77) "Back" [(.t 75)]⟩] []
def b5e : FC := .seq b5d FC.ret
def b5f : FC := .reg [⟨(some 80), none, .op (.bin .none .eql (.t 65) (.v (.int .i64 2)))⟩,  ⟨(some 79), none, .op (.mv (.t 80))⟩] []
def b5g : FC := .reg [⟨(some 81), none, .op (.mv (.t 0))⟩,  ⟨(some 82), none, .op (.nchk (.t 81))⟩,  ⟨(some 83), none, .op (.fad 9 (.t 82))⟩,  ⟨(some 84), none, .op (.load none (.t 83))⟩,  ⟨(some 85), none, .op (.len .sl (.t 84))⟩,  ⟨(some 86), none, .op (.bin .none .sub (.t 85) (.v (.int .i64 1)))⟩,  ⟨(some 6), none, .op (.mv (.t 86))⟩] []
def b5h : FC := .reg [⟨(some 87), none, .op (.mv (.t 0))⟩,  ⟨(some 88), none, .op (.nchk (.t 87))⟩,  ⟨(some 89), none, .op (.fad 9 (.t 88))⟩,  ⟨(some 90), none, .op (.load none (.t 89))⟩,  ⟨(some 91), none, .op (.mv (.t 6))⟩,  ⟨(some 92), none, .op (.iad none (some 2) (.t 90) (.t 91))⟩,  ⟨(some 93), none, .op (.fad 1 (.t 92))⟩,  ⟨(some 94), none, .op (.load none (.t 93))⟩,  ⟨(some 95), none, .op (.un .not (.t 94))⟩] []
def b5i : FC := .reg [⟨(some 96), none, .op (.mv (.t 0))⟩,  ⟨(some 97), none, .call 138 [(.t 96)]⟩] []
def b5j : FC := .seq b5i FC.ret
def b5k : FC := .cond (.t 95) b5j FC.skip
def b5l : FC := .seq b5h b5k
def b5m : FC := .reg [⟨(some 98), none, .op (.mv (.t 0))⟩,  ⟨(some 99), none, .op (.mv (.t 0))⟩,  ⟨(some 100), none, .op (.nchk (.t 99))⟩,  ⟨(some 101), none, .op (.fad 9 (.t 100))⟩,  ⟨(some 102), none, .op (.load none (.t 101))⟩,  ⟨(some 103), none, .op (.mv (.t 6))⟩,  ⟨(some 104), none, .op (.slc (some 2) (.t 102) none (some (.t 103)) none)⟩,  ⟨(some 105), none, .op (.nchk (.t 98))⟩,  ⟨(some 106), none, .op (.fad 9 (.t 105))⟩,  ⟨none, none, .op (.store 1 (.t 106) (.t 104))⟩] []
def b5n : FC := .reg [⟨(some 107), none, .op (.mv (.t 5))⟩,  ⟨(some 108), none, .op (.mv (.t 5))⟩,  ⟨(some 109), none, .op (.nchk (.t 108))⟩,  ⟨(some 110), none, .op (.fad 0 (.t 109))⟩,  ⟨(some 111), none, .op (.load none (.t 110))⟩,  ⟨(some 112), none, .inv (.t 111) "Keep" []⟩,  ⟨(some 113), none, .op (.nchk (.t 107))⟩,  ⟨(some 114), none, .op (.fad 3 (.t 113))⟩,  ⟨none, none, .op (.store 1 (.t 114) (.t 112))⟩] []
def b5o : FC := .seq b5m b5n
def b5p : FC := .seq b5l b5o
def b5q : FC := .seq b5g b5p
def b5r : FC := .cond (.t 79) b5q FC.skip
def b5s : FC := .seq b5f b5r
def b5t : FC := .cond (.t 66) b5e b5s
def b5u : FC := .seq b5c b5t
def b5v : FC := .block 2 b5u
def b5w : FC := .seq b5b b5v
def b5x : FC := .reg [⟨(some 115), none, .op (.mv (.t 5))⟩,  ⟨(some 4), none, .op (.mv (.t 115))⟩] []
def b5y : FC := .seq b5w b5x
def b5z : FC := .seq b5a b5y
def b5A : FC := .seq b4Z b5z
def b5B : FC := .seq c1b b5A
def b5C : FC := .block 1 b5B
def b5D : FC := .seq c1a b5C
def b5E : FC := .loop b5D
def b5F : FC := .block 0 b5E
def b5G : FC := .seq c0X b5F
def b5H : FC := .seq c0W b5G
def c4z : FC := b5H
theorem c4A : Fn3 Try.prog 153 116 [] c4z := ⟨_, _, Try.func153, rfl, rfl, rfl, by kernel_rfl⟩

theorem c1f : a1G Try.prog 128 "Back" = some 140 := by kernel_rfl
theorem c1g : a1G Try.prog 128 "Keep" = some 141 := by kernel_rfl
theorem c1h : a1G Try.prog 128 "Step" = some 142 := by kernel_rfl
structure RO where
 en : Option (Int × Int)
 push : Bool
 A : List ARow
 ps : List n9
def a3N (p : Program) : ARow → List ARow → List n9 → Option RO
 | z, r, ps => match z.df with
   | x :: df => (a0R p x.f x.args (r.length + 2)).bind fun f => some ⟨none, true, ⟨f, 1, [], 0⟩ :: { z with df := df } :: r, ps⟩
   | [] => match r with
     | [] => some ⟨some (1, 0), false, [], ps⟩
     | y :: t =>
       if z.why = 0 then (y.fr.back p z.ret).map fun f => ⟨none, false, { y with fr := f } :: t, ps⟩
       else if z.why = 2 then (match ps with
        | [] => none
        | a :: l => if a.rcv then (a8P y.fr).bind fun v => a3N p { y with ret := v } t l
          else (p9 p (y :: t) (a :: l)).map fun u => ⟨u.1.map fun v => (2, v), u.1.isNone, u.2.1, u.2.2⟩)
       else a3N p y t ps
theorem b0F {p : Program} {z : ARow} {r : List ARow} {ps : List n9} {u : RO} {x df} (hz : z.df = x :: df) (h : a3N p z r ps = some u) : ∃ f, a0R p x.f x.args (r.length + 2) = some f ∧ u = ⟨none, true, ⟨f, 1, [], 0⟩ :: { z with df := df } :: r, ps⟩ := by
 unfold a3N at h
 rw [hz] at h
 obtain ⟨f, h1, h2⟩ := Option.bind_eq_some_iff.1 h
 cases h2
 exact ⟨f, h1, rfl⟩
theorem b2t {p : Program} {z : ARow} {ps : List n9} {u : RO} (hz : z.df = []) (h : a3N p z [] ps = some u) : u = ⟨some (1, 0), false, [], ps⟩ := by
 unfold a3N at h
 rw [hz] at h
 cases h; rfl
theorem b0G {p : Program} {z y : ARow} {t : List ARow} {ps : List n9} {u : RO} (hz : z.df = []) (h : a3N p z (y :: t) ps = some u) :
  (z.why = 0 ∧ ∃ f, y.fr.back p z.ret = some f ∧ u = ⟨none, false, { y with fr := f } :: t, ps⟩) ∨
  (z.why = 2 ∧ ∃ a l, ps = a :: l ∧ ((a.rcv = true ∧ ∃ v, a8P y.fr = some v ∧ a3N p { y with ret := v } t l = some u) ∨
   (a.rcv = false ∧ ∃ w, p9 p (y :: t) ps = some w ∧ u = ⟨w.1.map fun v => (2, v), w.1.isNone, w.2.1, w.2.2⟩))) ∨
  (z.why ≠ 0 ∧ z.why ≠ 2 ∧ a3N p y t ps = some u) := by
 unfold a3N at h
 rw [hz] at h
 dsimp only at h
 split at h
 ·rename_i h0
  obtain ⟨f, h1, h2⟩ := Option.map_eq_some_iff.1 h
  exact .inl ⟨h0, f, h1, h2.symm⟩
 ·rename_i h0
  split at h
  ·rename_i h2
   cases ps with
   | nil => cases h
   | cons a l =>
     dsimp only at h
     cases ha : a.rcv with
     | true =>
       rw [ha, if_pos rfl] at h
       obtain ⟨v, h3, h4⟩ := Option.bind_eq_some_iff.1 h
       exact .inr (.inl ⟨h2, a, l, rfl, .inl ⟨ha, v, h3, h4⟩⟩)
     | false =>
       rw [ha, if_neg zS] at h
       obtain ⟨w, h3, h4⟩ := Option.map_eq_some_iff.1 h
       exact .inr (.inl ⟨h2, a, l, rfl, .inr ⟨ha, w, h3, h4.symm⟩⟩)
  ·rename_i h2
   exact .inr (.inr ⟨h0, h2, h⟩)
theorem b0H {a b c m r zs zd q zx zl zt ys yd : It} {X : List It} : Spl (a :: b :: c :: m :: r :: zs :: zd :: q :: zx :: zl :: zt :: ys :: yd :: X) [zs, zd, zx, zl, zt, m, r, q, ys, yd, a, b, c] X := (by repeat (first | exact Spl.nil | refine Spl.cons (by repeat (first | exact Pk.here | apply Pk.there | apply Pk.skip)) ?_ | refine Spl.app (by repeat (first | exact PkC.here | apply PkC.there | apply PkC.skip)) ?_))
section
variable {a0 a4 a6 a7 : AV} {o : UO} {p : Program} {ek ev dep live : Int}
def Siz (live : Int) (z : Row) : Prop := (z.df.length : Int) ≤ live ∧ z.fr.pc < 4611686018427387904 ∧ z.fr.st.length < 1000000000
theorem a5g {z : Row} {r : List Row} {ps : List n9} {rj pj : List AV} {v : Int} {u : RO} (hv : a3N p { z.toARow with ret := v } (a0p r) ps = some u) (hn : r.length < 9999999) (hp : ps.length < 10000000)
  (hl : ∀ g ∈ p.Funcs, g.Locals.length < 1000000000) (hd : 0 ≤ dep ∧ dep < 1000000000) (hlv : ∀ y ∈ z :: r, Siz live y) (hlv2 : live < 100000000) :
  Tri Try.prog 153 [.ptr o.m 0 0, .int .u64 v] (uL p o a0 a4 a6 a7 ek ev dep live (z :: r) ps rj pj)
   (fun _ L' => ∃ rv rows' rj' pj', a0p rows' = u.A ∧ L' = uL p { o with rv := rv } a0 a4 a6 a7 (u.en.elim ek (·.1)) (u.en.elim ev (·.2)) (if u.push then max dep (u.A.length : Int) else dep) (if u.push then live - 1 else live) rows' u.ps rj' pj') := by
 refine j9 mixed c4A zS [] (fun R S hS => ?_)
 have hS0 : Ab.Sep S ((o.m, 0, [a0, mkA p, .int .i64 ek, .int .u64 ev, a4, .int .i64 dep, a6, a7, .ref o.ro o.rv 0 (r.length + 1) none, .ref o.po o.pv 0 ps.length (some 2), .int .i64 live]) :: (o.ro, o.rv, a0D (z :: r) ++ rj) :: (o.po, o.pv, flat n9.av ps.reverse ++ pj) ::
  (z.s, 0, [.iface 128 (.ptr z.q.x 0 0), .int .i64 z.why, .ref z.d z.dv 0 z.df.length (some 2), .int .u64 z.ret]) :: (z.d, z.dv, flat a0J.av z.df.reverse ++ z.dj) :: (frL p z.fr z.q ++ r.flatMap (a0a p) ++ R)) := by
  simpa [uL, a0a, slL, List.append_assoc] using hS
 rw [r5] at hS0
 refine aU ?_
 refine f5 hS0 rfl (.head _) (v := .ref o.ro o.rv 0 (r.length + 1) none) rfl ?_
 refine aU ?_
 refine f5 hS0 rfl (.head _) (v := .ref o.ro o.rv 0 (r.length + 1) none) rfl ?_
 refine aU ?_
 refine u6 rfl rfl r.length (a0S zO) zO ?_
 refine f5 hS0 rfl (.tail _ (.head _)) (v := .ptr z.s 0 0) (a3z rfl zS) ?_
 refine aU ?_
 refine E_stS hS0 rfl (xv := .int .u64 v) rfl (Rp.there (Rp.there (Rp.there Rp.here))) rfl rfl (by first | exact Nat.le_of_ble_eq_true rfl | (simp; omega) | omega) (fun S hS => ?_)
 rw [← r5] at hS
 have hS1 : Ab.Sep S (uL p o a0 a4 a6 a7 ek ev dep live ({ z with ret := v } :: r) ps rj pj ++ R) := by
  have hS2 : Ab.Sep S ((o.m, 0, [a0, mkA p, .int .i64 ek, .int .u64 ev, a4, .int .i64 dep, a6, a7, .ref o.ro o.rv 0 (r.length + 1) none, .ref o.po o.pv 0 ps.length (some 2), .int .i64 live]) :: (o.ro, o.rv, a0D ({ z with ret := v } :: r) ++ rj) :: (o.po, o.pv, flat n9.av ps.reverse ++ pj) ::
   (z.s, 0, [.iface 128 (.ptr z.q.x 0 0), .int .i64 z.why, .ref z.d z.dv 0 z.df.length (some 2), .int .u64 v]) :: (z.d, z.dv, flat a0J.av z.df.reverse ++ z.dj) :: (frL p z.fr z.q ++ r.flatMap (a0a p) ++ R)) := hS
  simpa [uL, a0a, slL, List.append_assoc] using hS2
 refine aU ?_
 refine g8 (a5I (σ := Row × List Row × List n9 × List AV × List AV) (fun q => [(0, .ptr o.m 0 0), (4, .ptr q.1.s 0 0)]) (fun q => uL p o a0 a4 a6 a7 ek ev dep live (q.1 :: q.2.1) q.2.2.1 q.2.2.2.1 q.2.2.2.2 ++ R)
  (fun q => a3N p q.1.toARow (a0p q.2.1) q.2.2.1 = some u ∧ q.2.1.length < 9999999 ∧ q.2.2.1.length < 10000000 ∧ ∀ z ∈ q.1 :: q.2.1, Siz live z) (fun q => q.2.1.length) ({ z with ret := v }, r, ps, rj, pj) hS1 ⟨hv, hn, hp, fun y hy => by
   rcases List.mem_cons.1 hy with rfl | hy
   ·exact hlv z (.head _)
   ·exact hlv y (.tail _ hy)⟩
  (a1m ⟨.refl _, .refl _, trivial⟩) (fun q S hI hS => ?_))
 clear hS1 hS0 hlv hv hn hp
 obtain ⟨z, r, ps, rj, pj⟩ := q
 obtain ⟨i1, i2, i3, i4⟩ := hI
 dsimp only at i1 i2 i3 i4 hS
 have hS0 : Ab.Sep S ((o.m, 0, [a0, mkA p, .int .i64 ek, .int .u64 ev, a4, .int .i64 dep, a6, a7, .ref o.ro o.rv 0 (r.length + 1) none, .ref o.po o.pv 0 ps.length (some 2), .int .i64 live]) :: (o.ro, o.rv, a0D (z :: r) ++ rj) :: (o.po, o.pv, flat n9.av ps.reverse ++ pj) ::
  (z.s, 0, [.iface 128 (.ptr z.q.x 0 0), .int .i64 z.why, .ref z.d z.dv 0 z.df.length (some 2), .int .u64 z.ret]) :: (z.d, z.dv, flat a0J.av z.df.reverse ++ z.dj) :: (frL p z.fr z.q ++ r.flatMap (a0a p) ++ R)) := by
  simpa [uL, a0a, slL, List.append_assoc] using hS
 rw [r5] at hS0
 refine aU ?_
 cases hz : z.df with
 | cons x df =>
   obtain ⟨f, h1, h2⟩ := b0F (z := z.toARow) hz i1
   simp only [a0p, List.length_map] at h1
   subst h2
   have hlz := (i4 z (.head _)).1
   rw [hz, List.length_cons] at hlz
   refine a0d (a6E (m := o.m) (ro := o.ro) (rv := o.rv) (n := r.length) (p := p) (rc := a0D r) (rj := rj) (dep := dep) (w := 1) (z := z) (live := live) hz h1 zO (a3M hl h1) zS hd zO zO) hS0 rfl
    (Spl.cons Pk.here (Spl.cons Pk.here (Spl.cons (Pk.there Pk.here) (Spl.cons (Pk.there Pk.here) Spl.nil)))) (fun r0 S L' hL hS => ?_)
   obtain ⟨rfl, s, d, q, rfl⟩ := hL
   refine aU ?_
   refine d9 (t := false) rfl (fun h => by cases h) (fun _ => ?_)
   refine a4U ?_
   (repeat (first | refine i9 ?_ | refine j2 ?_ | refine j3 rfl ?_ | refine d7 ?_ | refine f7 ?_ | refine i7 ?_))
   refine ⟨trivial, _, rfl, _, ⟨o.rv + 1, ⟨⟨f, 1, [], 0⟩, s, d, 0, [], q⟩ :: { z with df := df, dj := x.cells ++ z.dj } :: r, [], pj, rfl, rfl⟩, ?_⟩
   have e1 : max dep ((r.length : Int) + 2) = max dep (((⟨f, 1, [], 0⟩ :: { z.toARow with df := df } :: a0p r : List ARow).length : Nat) : Int) := by simp [a0p]; omega
   rw [e1] at hS
   have e2 : a0D r ++ [AV.ptr z.s 0 0, .ptr s 0 0] = a0D (⟨⟨f, 1, [], 0⟩, s, d, 0, [], q⟩ :: { z with df := df, dj := x.cells ++ z.dj } :: r) ++ [] := by simp [a0D]
   rw [e2] at hS
   have hS5 := hS.perm (a8n (A := a0a p ⟨⟨f, 1, [], 0⟩, s, d, 0, [], q⟩) (B := slL { z with df := df, dj := x.cells ++ z.dj }) (C := frL p z.fr z.q) (X := r.flatMap (a0a p)) (R := R) : List.Perm ((([_, _] ++ _) ++ _) ++ (_ :: (_ ++ _ ++ R))) _)
   simpa [uL, a0a, List.append_assoc] using hS5
 | nil =>
   refine a0d (a6D (m := o.m) (ro := o.ro) (rv := o.rv) (n := r.length) (p := p) (rc := a0D r) (rj := rj) (dep := dep) (w := 1) (z := z) hz zO zS) hS0 rfl
    (Spl.cons Pk.here (Spl.cons Pk.here (Spl.cons (Pk.there Pk.here) (Spl.cons (Pk.there Pk.here) Spl.nil)))) (fun r0 S L' hL hS => ?_)
   obtain ⟨rfl, rfl⟩ := hL
   refine aU ?_
   refine d9 (t := true) rfl (fun _ => ?_) (fun h => by cases h)
   refine aU ?_
   refine g8 ?_
   refine aU ?_
   refine f5 hS rfl (.head _) (v := .ref o.ro o.rv 0 (r.length + 1) none) rfl ?_
   refine aU ?_
   refine f5 hS rfl (.head _) (v := .ref o.ro o.rv 0 (r.length + 1) none) rfl ?_
   refine aU ?_
   refine a2F (a := 0) (b := r.length) rfl rfl (by show hiN (r.length + 1) (some (.int .i64 (IntKind.i64.wrap (((r.length + 1 : Nat) : Int) - 1)))) = _; rw [a0S zO, z0 zO]; simp) ⟨by omega, by omega, .inl rfl⟩ ?_
   refine aU ?_
   refine E_stS hS rfl (xv := .ref o.ro o.rv 0 r.length none) (by show AV.ref o.ro o.rv (0 + 0 * c9 none) (r.length - 0) none = _; simp) Rp.here rfl rfl (by first | exact Nat.le_of_ble_eq_true rfl | (simp; omega) | omega) (fun S hS => ?_)
   refine aU ?_
   refine f5 hS rfl (.head _) (v := .ref o.ro o.rv 0 r.length none) rfl ?_
   refine aU ?_
   cases r with
   | nil =>
     have hu := b2t (z := z.toARow) hz i1
     subst hu
     refine d9 (t := true) rfl (fun _ => ?_) (fun h => by cases h)
     refine aU ?_
     refine E_stS hS rfl (xv := .agg [.int .i64 1, .int .u64 0]) rfl Rp.here rfl rfl (by first | exact Nat.le_of_ble_eq_true rfl | (simp; omega) | omega) (fun S hS => ?_)
     refine aU ?_
     refine f9 ?_
     (repeat (first | refine i9 ?_ | refine j2 ?_ | refine j3 rfl ?_ | refine d7 ?_ | refine f7 ?_ | refine i7 ?_))
     refine ⟨trivial, _, rfl, _, ⟨o.rv, [], .ptr z.s 0 0 :: rj, pj, rfl, rfl⟩, ?_⟩
     have hS4 : Ab.Sep S ((o.m, 0, [a0, mkA p, .int .i64 1, .int .u64 0, a4, .int .i64 dep, a6, a7, .ref o.ro o.rv 0 0 none, .ref o.po o.pv 0 ps.length (some 2), .int .i64 live]) :: (o.ro, o.rv, a0D [] ++ (.ptr z.s 0 0 :: rj)) :: _ :: _ :: (o.po, o.pv, flat n9.av ps.reverse ++ pj) :: _ :: _ :: _ :: ([] ++ R)) := hS
     exact hS4.sub b0E
   | cons y t =>
     simp only [List.length_cons] at i2
     refine d9 (t := false) (by show AV.bool (((t.length + 1 : Nat) : Int) == 0) = _; rw [show (((t.length + 1 : Nat) : Int) == 0) = false by simp; omega]) (fun h => by cases h) (fun _ => ?_)
     have hS6 : Ab.Sep S ((o.m, 0, [a0, mkA p, .int .i64 ek, .int .u64 ev, a4, .int .i64 dep, a6, a7, .ref o.ro o.rv 0 (t.length + 1) none, .ref o.po o.pv 0 ps.length (some 2), .int .i64 live]) :: (o.ro, o.rv, a0D (y :: t) ++ (.ptr z.s 0 0 :: rj)) ::
      (z.s, 0, [.iface 128 (.ptr z.q.x 0 0), .int .i64 z.why, .ref z.d z.dv 0 z.df.length (some 2), .int .u64 z.ret]) :: (z.d, z.dv, flat a0J.av z.df.reverse ++ z.dj) :: (o.po, o.pv, flat n9.av ps.reverse ++ pj) :: (z.q.x, 0, frC p z.fr z.q) :: (z.q.l, 0, flat (avI .u64) z.fr.lo) :: (z.q.t, z.q.tv, flat (avI .u64) z.fr.st.reverse ++ z.q.tj) ::
      (y.s, 0, [.iface 128 (.ptr y.q.x 0 0), .int .i64 y.why, .ref y.d y.dv 0 y.df.length (some 2), .int .u64 y.ret]) :: (y.d, y.dv, flat a0J.av y.df.reverse ++ y.dj) :: (y.q.x, 0, frC p y.fr y.q) :: (y.q.l, 0, flat (avI .u64) y.fr.lo) :: (y.q.t, y.q.tv, flat (avI .u64) y.fr.st.reverse ++ y.q.tj) :: (t.flatMap (a0a p) ++ R)) := by
      have hS5 : Ab.Sep S ((o.m, 0, [a0, mkA p, .int .i64 ek, .int .u64 ev, a4, .int .i64 dep, a6, a7, .ref o.ro o.rv 0 (t.length + 1) none, .ref o.po o.pv 0 ps.length (some 2), .int .i64 live]) :: (o.ro, o.rv, a0D (y :: t) ++ (.ptr z.s 0 0 :: rj)) ::
       (z.s, 0, [.iface 128 (.ptr z.q.x 0 0), .int .i64 z.why, .ref z.d z.dv 0 z.df.length (some 2), .int .u64 z.ret]) :: (z.d, z.dv, flat a0J.av z.df.reverse ++ z.dj) :: (o.po, o.pv, flat n9.av ps.reverse ++ pj) :: (z.q.x, 0, frC p z.fr z.q) :: (z.q.l, 0, flat (avI .u64) z.fr.lo) :: (z.q.t, z.q.tv, flat (avI .u64) z.fr.st.reverse ++ z.q.tj) ::
       ((a0a p y ++ t.flatMap (a0a p)) ++ R)) := hS
      exact hS5
     rw [r5] at hS6
     clear hS hS0
     refine aU ?_
     refine f5 hS6 rfl (.head _) (v := .ref o.ro o.rv 0 (t.length + 1) none) rfl ?_
     refine aU ?_
     refine f5 hS6 rfl (.head _) (v := .ref o.ro o.rv 0 (t.length + 1) none) rfl ?_
     refine aU ?_
     refine u6 rfl rfl t.length (a0S zO) zO ?_
     refine f5 hS6 rfl (.tail _ (.head _)) (v := .ptr y.s 0 0) (a3z rfl zS) ?_
     refine aU ?_
     refine f5 hS6 rfl (.tail _ (.tail _ (.head _))) (v := .int .i64 z.why) rfl ?_
     refine aU ?_
     refine g8 ?_
     refine aU ?_
     have hjy := i4 y (.tail _ (.head _))
     rcases b0G (z := z.toARow) (y := y.toARow) (t := a0p t) hz i1 with ⟨w0, f, h1, h2⟩ | ⟨w2, a, l, h1, h2⟩ | ⟨w0, w2, h1⟩
     ·refine d9 (t := true) (by show AV.bool (z.why == 0) = _; rw [w0]; rfl) (fun _ => ?_) (fun h => by cases h)
      refine aU ?_
      refine f5 hS6 rfl (.tail _ (.tail _ (.tail _ (.tail _ (.tail _ (.tail _ (.tail _ (.tail _ (.head _))))))))) (v := .iface 128 (.ptr y.q.x 0 0)) rfl ?_
      refine aU ?_
      refine f5 hS6 rfl (.tail _ (.tail _ (.head _))) (v := .int .u64 z.ret) rfl ?_
      refine aU ?_
      refine b0w (b2o (q := y.q) h1 hjy.2.1 hjy.2.2) hS6 rfl c1f zK rfl (Spl.cons (Pk.there (Pk.there (Pk.there (Pk.there (Pk.there (Pk.there (Pk.there (Pk.there (Pk.there (Pk.there Pk.here)))))))))) (Spl.cons (Pk.there (Pk.there (Pk.there (Pk.there (Pk.there (Pk.there (Pk.there (Pk.there (Pk.there (Pk.there Pk.here)))))))))) (Spl.cons (Pk.there (Pk.there (Pk.there (Pk.there (Pk.there (Pk.there (Pk.there (Pk.there (Pk.there (Pk.there Pk.here)))))))))) Spl.nil))) (fun r0 S L' hL hS => ?_)
      obtain ⟨q', e1, e2, rfl⟩ := hL
      refine aU ?_
      refine f9 ?_
      (repeat (first | refine i9 ?_ | refine j2 ?_ | refine j3 rfl ?_ | refine d7 ?_ | refine f7 ?_ | refine i7 ?_))
      subst h2
      refine ⟨trivial, _, rfl, _, ⟨o.rv, { y with fr := f, q := q' } :: t, .ptr z.s 0 0 :: rj, pj, rfl, rfl⟩, ?_⟩
      have hS7 := (hS.perm b0H).sub (List.sublist_append_right [_, _, _, _, _] _)
      rw [← r5, ← e1] at hS7
      exact hS7
     ·subst h1
      simp only [List.length_cons] at i3
      have hla : (a :: l).reverse[l.length]? = some a := by simp
      have hpf : flat n9.av (a :: l).reverse ++ pj = flat n9.av l.reverse ++ (a.cells ++ pj) := by rw [List.reverse_cons, m6, List.append_assoc]; rfl
      refine d9 (t := false) (by show AV.bool (z.why == 0) = _; rw [w2]; rfl) (fun h => by cases h) (fun _ => ?_)
      refine aU ?_
      refine d9 (t := true) (by show AV.bool (z.why == 2) = _; rw [w2]; rfl) (fun _ => ?_) (fun h => by cases h)
      refine aU ?_
      refine f5 hS6 rfl (.head _) (v := .ref o.po o.pv 0 (l.length + 1) (some 2)) rfl ?_
      refine aU ?_
      refine f5 hS6 rfl (.head _) (v := .ref o.po o.pv 0 (l.length + 1) (some 2)) rfl ?_
      refine aU ?_
      refine u6 rfl rfl l.length (a0S zO) zO ?_
      refine aU ?_
      refine a7m hS6 n9.enc rfl (.tail _ (.tail _ (.tail _ (.tail _ (.head _))))) (n := l.length) (fo := 1) (y := a) zS hla (v := .bool a.rcv) rfl ?_
      refine aU ?_
      rcases h2 with ⟨ha, v, h3, h4⟩ | ⟨ha, w, h3, h4⟩
      ·refine d9 (t := false) (by show AV.bool (!a.rcv) = _; rw [ha]; rfl) (fun h => by cases h) (fun _ => ?_)
       refine aU ?_
       refine f5 hS6 rfl (.head _) (v := .ref o.po o.pv 0 (l.length + 1) (some 2)) rfl ?_
       refine aU ?_
       refine a2F (a := 0) (b := l.length) rfl rfl (by show hiN (l.length + 1) (some (.int .i64 (IntKind.i64.wrap (((l.length + 1 : Nat) : Int) - 1)))) = _; rw [a0S zO, z0 zO]; simp) ⟨by omega, by omega, .inl rfl⟩ ?_
       refine aU ?_
       refine E_stS hS6 rfl (xv := .ref o.po o.pv 0 l.length (some 2)) (by show AV.ref o.po o.pv (0 + 0 * c9 (some 2)) (l.length - 0) (some 2) = _; simp) Rp.here rfl rfl (by first | exact Nat.le_of_ble_eq_true rfl | (simp; omega) | omega) (fun S hS => ?_)
       refine aU ?_
       refine f5 hS rfl (.tail _ (.tail _ (.tail _ (.tail _ (.tail _ (.tail _ (.tail _ (.tail _ (.head _))))))))) (v := .iface 128 (.ptr y.q.x 0 0)) rfl ?_
       refine aU ?_
       refine b0w (b2n (p := p) (q := y.q) h3) hS rfl c1g zK rfl (Spl.cons (Pk.there (Pk.there (Pk.there (Pk.there (Pk.there (Pk.there (Pk.there (Pk.there (Pk.there (Pk.there Pk.here)))))))))) (Spl.cons (Pk.there (Pk.there (Pk.there (Pk.there (Pk.there (Pk.there (Pk.there (Pk.there (Pk.there (Pk.there Pk.here)))))))))) (Spl.cons (Pk.there (Pk.there (Pk.there (Pk.there (Pk.there (Pk.there (Pk.there (Pk.there (Pk.there (Pk.there Pk.here)))))))))) Spl.nil))) (fun r0 S L' hL hS => ?_)
       obtain ⟨rfl, rfl⟩ := hL
       refine aU ?_
       refine E_stS hS rfl (xv := .int .u64 v) rfl (Rp.there (Rp.there (Rp.there (Rp.there (Rp.there (Rp.there (Rp.there (Rp.there (Rp.there (Rp.there (Rp.there Rp.here))))))))))) rfl rfl (by first | exact Nat.le_of_ble_eq_true rfl | (simp; omega) | omega) (fun S hS => ?_)
       refine aU ?_
       (repeat (first | refine i9 ?_ | refine j2 ?_ | refine j3 rfl ?_ | refine d7 ?_ | refine f7 ?_ | refine i7 ?_))
       refine aU ?_
       (repeat (first | refine i9 ?_ | refine j2 ?_ | refine j3 rfl ?_ | refine d7 ?_ | refine f7 ?_ | refine i7 ?_))
       have hS7 := (hS.perm b0H).sub (List.sublist_append_right [_, _, _, _, _] _)
       rw [hpf, ← r5] at hS7
       exact z5 ⟨({ y with ret := v }, t, l, .ptr z.s 0 0 :: rj, a.cells ++ pj), ⟨h4, by show t.length < 9999999; omega, by show l.length < 10000000; omega, fun x hx => by
        rcases List.mem_cons.1 hx with rfl | hx
        ·exact hjy
        ·exact i4 x (.tail _ (.tail _ hx))⟩, by show t.length < (y :: t).length; simp, hS7, a1m ⟨.refl _, .refl _, trivial⟩⟩
      ·refine d9 (t := true) (by show AV.bool (!a.rcv) = _; rw [ha]; rfl) (fun _ => ?_) (fun h => by cases h)
       have hS7 := hS6.sub b0E
       rw [← r5] at hS7
       obtain ⟨en, A', ps'⟩ := w
       refine aU ?_
       refine a0d (a5f (o := o) (a0 := a0) (a4 := a4) (a6 := a6) (a7 := a7) (ek := ek) (ev := ev) (dep := dep) (live := live) (rows := y :: t) (ps := a :: l) (rj := .ptr z.s 0 0 :: rj) (pj := pj) h3 zE zE hl hd (fun x hx => (i4 x (.tail _ hx)).1) hlv2) hS7 rfl (.refl _) (fun r0 S L' hL hS => ?_)
       obtain ⟨rv, rows', rj', pj', h5, rfl⟩ := hL
       refine aU ?_
       refine f9 ?_
       (repeat (first | refine i9 ?_ | refine j2 ?_ | refine j3 rfl ?_ | refine d7 ?_ | refine f7 ?_ | refine i7 ?_))
       subst h4
       refine ⟨trivial, _, rfl, _, ⟨rv, rows', rj', pj', h5, rfl⟩, ?_⟩
       cases en <;> exact hS
     ·have hb0 : (z.why == 0) = false := by simpa using w0
      have hb2 : (z.why == 2) = false := by simpa using w2
      refine d9 (t := false) (by show AV.bool (z.why == 0) = _; rw [hb0]) (fun h => by cases h) (fun _ => ?_)
      refine aU ?_
      refine d9 (t := false) (by show AV.bool (z.why == 2) = _; rw [hb2]) (fun h => by cases h) (fun _ => ?_)
      refine aU ?_
      (repeat (first | refine i9 ?_ | refine j2 ?_ | refine j3 rfl ?_ | refine d7 ?_ | refine f7 ?_ | refine i7 ?_))
      refine aU ?_
      (repeat (first | refine i9 ?_ | refine j2 ?_ | refine j3 rfl ?_ | refine d7 ?_ | refine f7 ?_ | refine i7 ?_))
      have hS7 := hS6.sub b0E
      rw [← r5] at hS7
      exact z5 ⟨(y, t, ps, .ptr z.s 0 0 :: rj, pj), ⟨h1, by show t.length < 9999999; omega, i3, fun x hx => i4 x (.tail _ hx)⟩, by show t.length < (y :: t).length; simp, hS7, a1m ⟨.refl _, .refl _, trivial⟩⟩
end
end Go.Proofs.Ytnpemocpfdgaoaa

/- sem's pointer, cell, core.M's At: the walks. -/
namespace Go.Proofs.Ytnpemocpfdgaoaa
open Go Go.Ab
set_option maxRecDepth 20000
set_option maxHeartbeats 2000000
def c1i : FC := .reg [⟨(some 4), none, .op (.mv (.v .nili))⟩] []
def c1j : FC := .reg [⟨(some 5), none, .op (.mv (.t 0))⟩,  ⟨(some 6), none, .op (.nchk (.t 5))⟩,  ⟨(some 7), none, .op (.fad 8 (.t 6))⟩,  ⟨(some 8), none, .op (.load none (.t 7))⟩,  ⟨(some 9), none, .op (.mv (.t 1))⟩,  ⟨(some 10), none, .op (.iad none none (.t 8) (.t 9))⟩,  ⟨(some 11), none, .op (.load none (.t 10))⟩,  ⟨(some 12), none, .op (.nchk (.t 11))⟩,  ⟨(some 13), none, .op (.fad 0 (.t 12))⟩,  ⟨(some 14), none, .op (.load none (.t 13))⟩,  ⟨(some 4), none, .op (.mv (.t 14))⟩] []
def c1k : FC := .seq c1j FC.ret
def c1l : FC := .seq c1i c1k
def c4B : FC := c1l
theorem c4C : Fn3 Try.prog 156 15 [(4, none)] c4B := ⟨_, _, Try.func156, rfl, rfl, rfl, by kernel_rfl⟩

section
variable {a0 a4 a6 a7 : AV} {o : UO} {p : Program} {ek ev dep live : Int} {rows : List Row} {ps : List n9} {rj pj : List AV}
def a8o (a b : Int) : Int := IntKind.u64.wrap ↑(BitVec.ofInt IntKind.u64.bits (IntKind.u64.wrap (IntKind.u64.wrap (IntKind.i64.wrap (a + 1)) * 2 ^ min (Int.toNat 8) IntKind.u64.bits)) ||| BitVec.ofInt IntKind.u64.bits (IntKind.u64.wrap b)).toNat
theorem a7q {a b : Int} : b1y Try.prog 145 [.int .i64 a, .int .i64 b] [] (.int .u64 (a8o a b)) := by
 refine a3k mixed c3T zS [] (fun R S hS => ?_)
 refine aU ?_
 refine f9 ?_
 (repeat (first | refine i9 ?_ | refine j2 ?_ | refine j3 rfl ?_ | refine d7 ?_ | refine f7 ?_ | refine i7 ?_))
 exact ⟨trivial, _, rfl, rfl, rfl⟩
theorem c1m {i : Nat} {y : Row} (hy : rows.reverse[i]? = some y) : b1y Try.prog 156 [.ptr o.m 0 0, .int .i64 i] (uL p o a0 a4 a6 a7 ek ev dep live rows ps rj pj) (.iface 128 (.ptr y.q.x 0 0)) := by
 have hi := (List.getElem?_eq_some_iff.1 hy).1
 simp only [List.length_reverse] at hi
 have hyr : y ∈ rows := by simpa using List.mem_of_getElem? hy
 refine a3k mixed c4C zS [] (fun R S hS => ?_)
 refine aU ?_
 refine f5 hS rfl (.head _) (v := .ref o.ro o.rv 0 rows.length none) rfl ?_
 refine aU ?_
 refine u6 rfl rfl i rfl hi ?_
 have hpt : z7 none (a0D rows ++ rj) (0 + i * c9 none) = some (.ptr y.s 0 0) := by
  rw [show 0 + i * c9 none = i by simp [c9]]
  unfold z7
  simp only [a0D, ← List.map_reverse, List.length_append, List.length_map, List.length_reverse]
  rw [if_pos zO, List.getD_eq_getElem?_getD, List.getElem?_append_left (by simp [hi]), List.getElem?_map, hy]
  rfl
 refine f5 hS rfl (.tail _ (.head _)) (v := .ptr y.s 0 0) hpt ?_
 refine aU ?_
 have hm : (y.s, 0, [AV.iface 128 (.ptr y.q.x 0 0), .int .i64 y.why, .ref y.d y.dv 0 y.df.length (some 2), .int .u64 y.ret]) ∈ uL p o a0 a4 a6 a7 ek ev dep live rows ps rj pj ++ R :=
  List.mem_append_left _ (.tail _ (.tail _ (.tail _ (List.mem_flatMap.2 ⟨y, hyr, .head _⟩))))
 refine f5 hS rfl hm (v := .iface 128 (.ptr y.q.x 0 0)) rfl ?_
 refine aU ?_
 refine f9 ?_
 (repeat (first | refine i9 ?_ | refine j2 ?_ | refine j3 rfl ?_ | refine d7 ?_ | refine f7 ?_ | refine i7 ?_))
 exact ⟨trivial, _, rfl, rfl, rfl⟩
def b1z (pt : Int) : Int := IntKind.i64.wrap (IntKind.i64.wrap (pt.fdiv (2 ^ min (Int.toNat 8) IntKind.u64.bits)) - 1)
def b2u (pt : Int) : Int := IntKind.u64.wrap ↑(BitVec.ofInt IntKind.u64.bits pt &&& BitVec.ofInt IntKind.u64.bits 255).toNat
theorem a8p {i k : Nat} {y : Row} {pt : Int} (hp : pt ≠ 0) (hpi : b1z pt = (i : Int)) (hpk : b2u pt = (k : Int)) (hy : rows.reverse[i]? = some y) (hk : k < y.fr.lo.length) : b1y Try.prog 149 [.ptr o.m 0 0, .int .u64 pt] (uL p o a0 a4 a6 a7 ek ev dep live rows ps rj pj) (.ptr y.q.l 0 k) := by
 refine a3k mixed c0d zS [] (fun R S hS => ?_)
 refine aU ?_
 refine d9 (t := false) (by show AV.bool (pt == 0) = _; rw [show (pt == 0) = false by simpa using hp]) (fun h => by cases h) (fun _ => ?_)
 refine aU ?_
 refine b3V (c1m hy) hS (by show [AV.ptr o.m 0 0, .int .i64 (b1z pt)] = _; rw [hpi]) (.refl _) ?_
 refine aU ?_
 have hm : (y.q.x, 0, frC p y.fr y.q) ∈ uL p o a0 a4 a6 a7 ek ev dep live rows ps rj pj ++ R :=
  List.mem_append_left _ (.tail _ (.tail _ (.tail _ (List.mem_flatMap.2 ⟨y, by simpa using List.mem_of_getElem? hy, .tail _ (.tail _ (.head _))⟩))))
 refine f5 hS rfl hm (v := .ref y.q.l 0 0 y.fr.lo.length none) rfl ?_
 refine aU ?_
 trace_state
 refine u6 rfl rfl k hpk hk ?_
 refine aU ?_
 refine f9 ?_
 (repeat (first | refine i9 ?_ | refine j2 ?_ | refine j3 rfl ?_ | refine d7 ?_ | refine f7 ?_ | refine i7 ?_))
 exact ⟨trivial, _, rfl, by show AV.ptr y.q.l 0 (0 + k * c9 none) = _; simp [c9], rfl⟩
theorem b2v : b1y Try.prog 149 [.ptr o.m 0 0, .int .u64 0] [] .nilp := by
 refine a3k mixed c0d zS [] (fun R S hS => ?_)
 refine aU ?_
 refine d9 (t := true) rfl (fun _ => ?_) (fun h => by cases h)
 refine aU ?_
 refine f9 ?_
 (repeat (first | refine i9 ?_ | refine j2 ?_ | refine j3 rfl ?_ | refine d7 ?_ | refine f7 ?_ | refine i7 ?_))
 exact ⟨trivial, _, rfl, rfl, rfl⟩
end
end Go.Proofs.Ytnpemocpfdgaoaa

/- sem's memory: the walk. -/
namespace Go.Proofs.Ytnpemocpfdgaoaa
open Go Go.Ab
set_option maxRecDepth 20000
set_option maxHeartbeats 2000000
section
variable {a0 a4 a6 a7 : AV} {o : UO} {p : Program} {ek ev dep live : Int} {z : Row} {r : List Row} {ps : List n9} {rj pj : List AV} {R : List It} {S : List Ob}
def uR (p : Program) (o : UO) (a0 a4 a6 a7 : AV) (ek ev dep live : Int) (z : Row) (r : List Row) (ps : List n9) (rj pj : List AV) : List It :=
 (o.m, 0, [a0, mkA p, .int .i64 ek, .int .u64 ev, a4, .int .i64 dep, a6, a7, .ref o.ro o.rv 0 (r.length + 1) none, .ref o.po o.pv 0 ps.length (some 2), .int .i64 live]) :: (o.ro, o.rv, a0D (z :: r) ++ rj) :: (o.po, o.pv, flat n9.av ps.reverse ++ pj) :: (slL z ++ r.flatMap (a0a p))
theorem a7r : List.Perm (uL p o a0 a4 a6 a7 ek ev dep live (z :: r) ps rj pj ++ R) (frL p z.fr z.q ++ (uR p o a0 a4 a6 a7 ek ev dep live z r ps rj pj ++ R)) := by
 have h : Spl ((o.m, 0, [a0, mkA p, .int .i64 ek, .int .u64 ev, a4, .int .i64 dep, a6, a7, .ref o.ro o.rv 0 (r.length + 1) none, .ref o.po o.pv 0 ps.length (some 2), .int .i64 live]) :: (o.ro, o.rv, a0D (z :: r) ++ rj) :: (o.po, o.pv, flat n9.av ps.reverse ++ pj) :: (z.s, 0, [.iface 128 (.ptr z.q.x 0 0), .int .i64 z.why, .ref z.d z.dv 0 z.df.length (some 2), .int .u64 z.ret]) :: (z.d, z.dv, flat a0J.av z.df.reverse ++ z.dj) :: (z.q.x, 0, frC p z.fr z.q) :: (z.q.l, 0, flat (avI .u64) z.fr.lo) :: (z.q.t, z.q.tv, flat (avI .u64) z.fr.st.reverse ++ z.q.tj) :: (r.flatMap (a0a p) ++ R))
  [(z.q.x, 0, frC p z.fr z.q), (z.q.l, 0, flat (avI .u64) z.fr.lo), (z.q.t, z.q.tv, flat (avI .u64) z.fr.st.reverse ++ z.q.tj)] _ :=
  Spl.cons (Pk.there (Pk.there (Pk.there (Pk.there (Pk.there Pk.here))))) (Spl.cons (Pk.there (Pk.there (Pk.there (Pk.there (Pk.there Pk.here))))) (Spl.cons (Pk.there (Pk.there (Pk.there (Pk.there (Pk.there Pk.here))))) Spl.nil))
 exact h
theorem b0I {f : SFr} {q : FO} (hq : q.x = z.q.x) (h : Ab.Sep S (frL p f q ++ (uR p o a0 a4 a6 a7 ek ev dep live z r ps rj pj ++ R))) : Ab.Sep S (uL p o a0 a4 a6 a7 ek ev dep live ({ z with fr := f, q := q } :: r) ps rj pj ++ R) := by
 have h1 := (a7r (a0 := a0) (a4 := a4) (a6 := a6) (a7 := a7) (o := o) (p := p) (ek := ek) (ev := ev) (dep := dep) (live := live) (z := { z with fr := f, q := q }) (r := r) (ps := ps) (rj := rj) (pj := pj) (R := R)).symm
 refine Sep.perm (L := frL p f q ++ (uR p o a0 a4 a6 a7 ek ev dep live { z with fr := f, q := q } r ps rj pj ++ R)) ?_ h1
 have e : uR p o a0 a4 a6 a7 ek ev dep live { z with fr := f, q := q } r ps rj pj = uR p o a0 a4 a6 a7 ek ev dep live z r ps rj pj := by
  unfold uR slL; dsimp only; rw [hq]; rfl
 rw [e]; exact h
end
section
variable {a0 a4 a6 a7 : AV} {o : UO} {p : Program} {ek ev dep live : Int} {z : Row} {r : List Row} {ps ps' : List n9} {rj pj : List AV}
theorem Tri_top {g : FuncId} {ag : List AV} {Qf : AV → SFr → Prop} (c : Tri Try.prog g ag (frL p z.fr z.q) (fun v L' => ∃ f q, q.x = z.q.x ∧ Qf v f ∧ L' = frL p f q)) :
  Tri Try.prog g ag (uL p o a0 a4 a6 a7 ek ev dep live (z :: r) ps rj pj) (fun v L' => ∃ f q, q.x = z.q.x ∧ Qf v f ∧ L' = uL p o a0 a4 a6 a7 ek ev dep live ({ z with fr := f, q := q } :: r) ps rj pj) := fun R S hS => by
 obtain ⟨v, S', h1, L', ⟨f, q, h2, h3, rfl⟩, h4⟩ := c _ _ (hS.perm a7r)
 exact ⟨v, S', h1, _, ⟨f, q, h2, h3, rfl⟩, b0I h2 h4⟩
theorem b2w {f : SFr} {q : FO} {v : Int} {st : List Int} (hst : f.st = v :: st) (hl : st.length < 1000000000) :
  Tri Try.prog 144 [.ptr q.x 0 0] (frL p f q) (fun r L' => ∃ f' q', q'.x = q.x ∧ (r = .int .u64 v ∧ f' = { f with st := st }) ∧ L' = frL p f' q') := fun R S hS => by
 have h2 := hS.perm (L' := [(q.x, 0, frC p f q), (q.t, q.tv, flat (avI .u64) f.st.reverse ++ q.tj)] ++ ((q.l, 0, flat (avI .u64) f.lo) :: R)) (List.Perm.cons _ (List.Perm.swap _ _ _))
 have c := b0C (a := .cptr (Program.av p).cells 0) (b := .cptr (Func.av f.f).cells 0) (c := .ref q.l 0 0 f.lo.length none) (e := .int .i64 f.pc) (g := .int .i64 f.nu) (x := q.x) (t := q.t) (tv := q.tv) (v := v) (st := st) (j := q.tj) hl
 unfold frC at h2
 rw [hst] at h2
 obtain ⟨r', S', h3, L', ⟨rfl, rfl⟩, h4⟩ := c _ _ h2
 exact ⟨_, S', h3, _, ⟨{ f with st := st }, { q with tj := .int .u64 v :: q.tj }, rfl, ⟨rfl, rfl⟩, rfl⟩, h4.perm (List.Perm.cons _ (List.Perm.swap _ _ _))⟩
theorem b0J {f : SFr} {q : FO} {ex : Bool} {vs : List Int} (hl : f.st.length < 1000000000) (hl2 : vs.length ≤ 1000) :
  Tri Try.prog 143 [.ptr q.x 0 0, .sl ex 1 (vs.map (avI .u64))] (frL p f q) (fun r L' => ∃ f' q', q'.x = q.x ∧ f' = { f with st := vs.reverse ++ f.st } ∧ L' = frL p f' q') := fun R S hS => by
 have h2 := hS.perm (L' := [(q.x, 0, frC p f q), (q.t, q.tv, flat (avI .u64) f.st.reverse ++ q.tj)] ++ ((q.l, 0, flat (avI .u64) f.lo) :: R)) (List.Perm.cons _ (List.Perm.swap _ _ _))
 have c := a8m (a := .cptr (Program.av p).cells 0) (b := .cptr (Func.av f.f).cells 0) (c := .ref q.l 0 0 f.lo.length none) (e := .int .i64 f.pc) (g := .int .i64 f.nu) (x := q.x) (t := q.t) (tv := q.tv) (ex := ex) (vs := vs) (st := f.st) (j := q.tj) hl hl2
 obtain ⟨r', S', h3, L', rfl, h4⟩ := c _ _ h2
 exact ⟨_, S', h3, _, ⟨{ f with st := vs.reverse ++ f.st }, { q with tv := q.tv + 1, tj := [] }, rfl, rfl, rfl⟩, h4.perm (List.Perm.cons _ (List.Perm.swap _ _ _))⟩
theorem q8 {v : Int} {st : List Int} (hst : z.fr.st = v :: st) (hl : st.length < 1000000000) :
  Tri Try.prog 144 [.ptr z.q.x 0 0] (uL p o a0 a4 a6 a7 ek ev dep live (z :: r) ps rj pj) (fun x L' => ∃ f q, q.x = z.q.x ∧ (x = .int .u64 v ∧ f = { z.fr with st := st }) ∧ L' = uL p o a0 a4 a6 a7 ek ev dep live ({ z with fr := f, q := q } :: r) ps rj pj) :=
 Tri_top (Qf := fun x f' => x = .int .u64 v ∧ f' = { z.fr with st := st }) (b2w (p := p) (q := z.q) hst hl)
theorem a0b {ex : Bool} {vs : List Int} (hl : z.fr.st.length < 1000000000) (hl2 : vs.length ≤ 1000) :
  Tri Try.prog 143 [.ptr z.q.x 0 0, .sl ex 1 (vs.map (avI .u64))] (uL p o a0 a4 a6 a7 ek ev dep live (z :: r) ps rj pj) (fun x L' => ∃ f q, q.x = z.q.x ∧ f = { z.fr with st := vs.reverse ++ z.fr.st } ∧ L' = uL p o a0 a4 a6 a7 ek ev dep live ({ z with fr := f, q := q } :: r) ps rj pj) :=
 Tri_top (Qf := fun _ f' => f' = { z.fr with st := vs.reverse ++ z.fr.st }) (b0J (p := p) (f := z.fr) (q := z.q) (ex := ex) (vs := vs) hl hl2)
theorem a6H {k : Int} {ag : List Int} {f' : SFr} (hv : z.fr.args p k = some (ag, f')) (hl : z.fr.st.length < 1000000000) :
  Tri Try.prog 151 [.ptr z.q.x 0 0, .int .i64 k] (uL p o a0 a4 a6 a7 ek ev dep live (z :: r) ps rj pj) (fun x L' => ∃ f q, q.x = z.q.x ∧ (x = .sl false 1 (ag.map (avI .u64)) ∧ f = f') ∧ L' = uL p o a0 a4 a6 a7 ek ev dep live ({ z with fr := f, q := q } :: r) ps rj pj) :=
 Tri_top (Qf := fun x f => x = .sl false 1 (ag.map (avI .u64)) ∧ f = f') ((b2p (q := z.q) hv hl).mono (fun v L' ⟨h1, q', h2, _, h3⟩ => ⟨f', q', h2, ⟨h1, rfl⟩, h3⟩))
end
end Go.Proofs.Ytnpemocpfdgaoaa

/- sem's memory: the walk. -/
namespace Go.Proofs.Ytnpemocpfdgaoaa
open Go Go.Ab
set_option maxRecDepth 20000
set_option maxHeartbeats 2000000
def c1n : FC := .reg [⟨(some 9), none, .op (.mv (.t 1))⟩,  ⟨(some 10), none, .op (.mv (.t 0))⟩,  ⟨(some 11), none, .call 144 [(.t 10)]⟩,  ⟨(some 12), none, .call 149 [(.t 9), (.t 11)]⟩,  ⟨(some 8), none, .op (.mv (.t 12))⟩] []
def c1o : FC := .reg [⟨(some 20), none, .op (.mv (.t 8))⟩,  ⟨(some 21), none, .op (.bin .ptr .eql (.t 20) (.v .nilp))⟩,  ⟨(some 19), none, .op (.mv (.t 21))⟩] []
def c1p : FC := .reg [⟨(some 22), none, .op (.mv (.t 1))⟩,  ⟨(some 23), none, .call 150 [(.t 22), (.v (.int .u64 18446744073709551614))]⟩] []
def c1q : FC := .reg [⟨(some 25), none, .op (.mv (.t 3))⟩,  ⟨(some 24), none, .op (.mv (.t 25))⟩] []
def c1r : FC := .reg [⟨(some 26), none, .op (.mv (.t 8))⟩,  ⟨(some 27), none, .op (.mv (.t 2))⟩,  ⟨(some 28), none, .op (.nchk (.t 26))⟩,  ⟨none, none, .op (.store 1 (.t 28) (.t 27))⟩] []
def c1s : FC := .reg [⟨(some 13), none, .op (.mv (.t 0))⟩,  ⟨(some 14), none, .op (.mv (.t 8))⟩,  ⟨(some 15), none, .op (.nchk (.t 14))⟩,  ⟨(some 16), none, .op (.load none (.t 15))⟩,  ⟨(some 17), none, .op (.bsl none [(.int .u64 0)] 1 [(0, 1, (.t 16))])⟩,  ⟨(some 18), none, .call 143 [(.t 13), (.t 17)]⟩] []
def c1t : FC := .cond (.t 24) c1r c1s
def c1u : FC := .seq c1q c1t
def c1v : FC := .cond (.t 19) c1p c1u
def b5I : FC := .seq c1o c1v
def b5J : FC := .block 0 b5I
def b5K : FC := .seq c1n b5J
def c4D : FC := b5K
theorem b5L : Fn3 Try.prog 146 29 [] c4D := ⟨_, _, Try.func146, rfl, rfl, rfl, by kernel_rfl⟩

section
variable {a0 a4 a6 a7 : AV} {o : UO} {p : Program} {ek ev dep live : Int} {z : Row} {r : List Row} {ps ps' : List n9} {rj pj : List AV}
theorem a8q {v pmx : Int} {b : Bool} {st : List Int} {en : Option Int} {A' : List ARow} (hst : z.fr.st = 0 :: st) (hs : st.length < 1000000000)
  (hv : p9 p ({ z.toARow with fr := { z.fr with st := st } } :: a0p r) (⟨18446744073709551614, false⟩ :: ps) = some (en, A', ps')) (hn : r.length < 9999999) (hp : ps.length < 9999999)
  (hl : ∀ g ∈ p.Funcs, g.Locals.length < 1000000000) (hd : 0 ≤ dep ∧ dep < 1000000000) (hlv : ∀ y ∈ z :: r, (y.df.length : Int) ≤ live) (hlv2 : live < 100000000) :
  Tri Try.prog 146 [.ptr z.q.x 0 0, .ptr o.m 0 0, .int .u64 v, .bool b] (uL p o a0 a4 a6 (.int .i64 pmx) ek ev dep live (z :: r) ps rj pj)
   (fun _ L' => ∃ rv rows' rj' pj', a0p rows' = A' ∧ L' = uL p { o with rv := rv, pv := o.pv + 1 } a0 a4 a6 (.int .i64 (max pmx ((ps.length : Int) + 1))) (if en.isSome then 2 else ek) (en.getD ev) (if en.isSome then dep else max dep (A'.length : Int)) (if en.isSome then live else live - 1) rows' ps' rj' pj') := by
 refine j9 mixed b5L zS [] (fun R S hS => ?_)
 refine aU ?_
 refine a0d (q8 hst hs) hS rfl (.refl _) (fun x S L' hL hS => ?_)
 obtain ⟨f, q, hq, ⟨rfl, rfl⟩, rfl⟩ := hL
 refine b3V (b2v (o := o)) hS rfl Spl.nil ?_
 refine aU ?_
 refine g8 ?_
 refine aU ?_
 refine d9 (t := true) rfl (fun _ => ?_) (fun h => by cases h)
 refine aU ?_
 refine a0d (a4p (o := o) (pmx := pmx) (v := 18446744073709551614) (rows := { z with fr := { z.fr with st := st }, q := q } :: r) hv zE hp hl hd (fun y hy => by
  rcases List.mem_cons.1 hy with rfl | hy
  ·exact hlv z (.head _)
  ·exact hlv y (.tail _ hy)) hlv2) hS rfl (.refl _) (fun x S L' hL hS => ?_)
 refine aU ?_
 (repeat (first | refine i9 ?_ | refine j2 ?_ | refine j3 rfl ?_ | refine d7 ?_ | refine f7 ?_ | refine i7 ?_))
 exact ⟨trivial, _, rfl, _, hL, hS⟩
theorem b0K {rows : List Row} {i : Nat} {ya : ARow} (h : (a0p rows).reverse[i]? = some ya) : ∃ y, rows.reverse[i]? = some y ∧ y.toARow = ya := by
 unfold a0p at h
 rw [← List.map_reverse, List.getElem?_map] at h
 obtain ⟨y, h1, h2⟩ := Option.map_eq_some_iff.1 h
 exact ⟨y, h1, h2⟩
theorem c1w {rows : List Row} {i : Nat} {y : Row} {R : List It} (h : rows.reverse[i]? = some y) : (y.q.l, 0, flat (avI .u64) y.fr.lo) ∈ uL p o a0 a4 a6 a7 ek ev dep live rows ps rj pj ++ R :=
 List.mem_append_left _ (.tail _ (.tail _ (.tail _ (List.mem_flatMap.2 ⟨y, by simpa using List.mem_of_getElem? h, .tail _ (.tail _ (.tail _ (.head _)))⟩))))
theorem b2x {v pt w : Int} {st : List Int} {i k : Nat} {ya : ARow} (hst : z.fr.st = pt :: st) (hs : st.length < 100000000) (hp0 : pt ≠ 0) (hpi : b1z pt = (i : Int)) (hpk : b2u pt = (k : Int))
  (hy : ({ z.toARow with fr := { z.fr with st := st } } :: a0p r).reverse[i]? = some ya) (hw : ya.fr.lo[k]? = some w) :
  Tri Try.prog 146 [.ptr z.q.x 0 0, .ptr o.m 0 0, .int .u64 v, .bool false] (uL p o a0 a4 a6 a7 ek ev dep live (z :: r) ps rj pj)
   (fun _ L' => ∃ f q, q.x = z.q.x ∧ f = { z.fr with st := w :: st } ∧ L' = uL p o a0 a4 a6 a7 ek ev dep live ({ z with fr := f, q := q } :: r) ps rj pj) := by
 refine j9 mixed b5L zS [] (fun R S hS => ?_)
 refine aU ?_
 refine a0d (q8 hst zO) hS rfl (.refl _) (fun x S L' hL hS => ?_)
 obtain ⟨f, q, hq, ⟨rfl, rfl⟩, rfl⟩ := hL
 obtain ⟨y, hy1, rfl⟩ := b0K (rows := { z with fr := { z.fr with st := st }, q := q } :: r) hy
 refine b3V (a8p (o := o) hp0 hpi hpk hy1 (List.getElem?_eq_some_iff.1 hw).1) hS rfl (.refl _) ?_
 refine aU ?_
 refine g8 ?_
 refine aU ?_
 refine d9 (t := false) rfl (fun h => by cases h) (fun _ => ?_)
 refine aU ?_
 refine d9 (t := false) rfl (fun h => by cases h) (fun _ => ?_)
 refine aU ?_
 refine b0x hS (f4 .u64) rfl (c1w hy1) (n := k) (fo := 0) (y := w) (by simp [c9]) hw (v := .int .u64 w) rfl ?_
 refine aU ?_
 refine a0d (a0b (z := { z with fr := { z.fr with st := st }, q := q }) (ex := true) (vs := [w]) (by show st.length < _; omega) zS) hS (by show [AV.ptr z.q.x 0 0, _] = [AV.ptr q.x 0 0, _]; rw [hq]; rfl) (.refl _) (fun x S L' hL hS => ?_)
 obtain ⟨f, q2, hq2, rfl, rfl⟩ := hL
 refine aU ?_
 (repeat (first | refine i9 ?_ | refine j2 ?_ | refine j3 rfl ?_ | refine d7 ?_ | refine f7 ?_ | refine i7 ?_))
 exact ⟨trivial, _, rfl, _, ⟨_, q2, hq2.trans hq, rfl, rfl⟩, hS⟩
def a2M (k : Nat) (v : Int) (y : Row) : Row := { y with fr := { y.fr with lo := y.fr.lo.set k v } }
def a7s (k : Nat) (v : Int) (y : ARow) : ARow := { y with fr := { y.fr with lo := y.fr.lo.set k v } }
def a8R (l : List ARow) (i k : Nat) (v : Int) : List ARow := l.modify (l.length - 1 - i) (a7s k v)
theorem a5L {α β : Type} {f : α → β} {g : α → α} {h : β → β} (e : ∀ x, f (g x) = h (f x)) : ∀ (l : List α) (j : Nat), (l.modify j g).map f = (l.map f).modify j h
 | [], 0 => rfl
 | [], _ + 1 => rfl
 | x :: l, 0 => by simp [e]
 | x :: l, j + 1 => by simp [a5L e l j]
theorem b5M {k : Nat} {v : Int} {R : List It} : ∀ (rows : List Row) (j : Nat) {y : Row}, rows[j]? = some y → Rp (rows.flatMap (a0a p) ++ R) (y.q.l, 0, flat (avI .u64) y.fr.lo) (y.q.l, 0, flat (avI .u64) (y.fr.lo.set k v)) ((rows.modify j (a2M k v)).flatMap (a0a p) ++ R)
 | [], _, _, h => by simp at h
 | x :: t, 0, y, h => by
   simp at h; subst h
   have e1 : (x :: t).flatMap (a0a p) ++ R = a0a p x ++ (t.flatMap (a0a p) ++ R) := by simp
   have e2 : ((x :: t).modify 0 (a2M k v)).flatMap (a0a p) ++ R = a0a p (a2M k v x) ++ (t.flatMap (a0a p) ++ R) := by simp
   rw [e1, e2]
   have e3 : a0a p (a2M k v x) = slL x ++ [(x.q.x, 0, frC p x.fr x.q), (x.q.l, 0, flat (avI .u64) (x.fr.lo.set k v)), (x.q.t, x.q.tv, flat (avI .u64) x.fr.st.reverse ++ x.q.tj)] := by
    show slL x ++ [(x.q.x, 0, [AV.cptr (Program.av p).cells 0, .cptr (Func.av x.fr.f).cells 0, .ref x.q.l 0 0 (x.fr.lo.set k v).length none, _, _, _]), _, _] = _
    rw [List.length_set]
    rfl
   rw [e3]
   exact Rp.there (Rp.there (Rp.there Rp.here))
 | x :: t, j + 1, y, h => by
   have e1 : (x :: t).flatMap (a0a p) ++ R = a0a p x ++ (t.flatMap (a0a p) ++ R) := by simp
   have e2 : ((x :: t).modify (j + 1) (a2M k v)).flatMap (a0a p) ++ R = a0a p x ++ ((t.modify j (a2M k v)).flatMap (a0a p) ++ R) := by simp
   rw [e1, e2]
   exact Rp.skip (b5M t j (by simpa using h))
theorem b2y {k : Nat} {v : Int} (rows : List Row) (j : Nat) : a0D (rows.modify j (a2M k v)) = a0D rows := by
 unfold a0D
 rw [a5L (f := fun z : Row => AV.ptr z.s 0 0) (g := a2M k v) (h := id) (fun _ => rfl), List.modify_id]
theorem b2z {v pt w : Int} {st : List Int} {i k : Nat} {ya : ARow} (hst : z.fr.st = pt :: st) (hs : st.length < 100000000) (hp0 : pt ≠ 0) (hpi : b1z pt = (i : Int)) (hpk : b2u pt = (k : Int))
  (hy : ({ z.toARow with fr := { z.fr with st := st } } :: a0p r).reverse[i]? = some ya) (hw : ya.fr.lo[k]? = some w) :
  Tri Try.prog 146 [.ptr z.q.x 0 0, .ptr o.m 0 0, .int .u64 v, .bool true] (uL p o a0 a4 a6 a7 ek ev dep live (z :: r) ps rj pj)
   (fun _ L' => ∃ rows', a0p rows' = a8R ({ z.toARow with fr := { z.fr with st := st } } :: a0p r) i k v ∧ L' = uL p o a0 a4 a6 a7 ek ev dep live rows' ps rj pj) := by
 refine j9 mixed b5L zS [] (fun R S hS => ?_)
 refine aU ?_
 refine a0d (q8 hst zO) hS rfl (.refl _) (fun x S L' hL hS => ?_)
 obtain ⟨f, q, hq, ⟨rfl, rfl⟩, rfl⟩ := hL
 obtain ⟨y, hy1, rfl⟩ := b0K (rows := { z with fr := { z.fr with st := st }, q := q } :: r) hy
 refine b3V (a8p (o := o) hp0 hpi hpk hy1 (List.getElem?_eq_some_iff.1 hw).1) hS rfl (.refl _) ?_
 refine aU ?_
 refine g8 ?_
 refine aU ?_
 refine d9 (t := false) rfl (fun h => by cases h) (fun _ => ?_)
 refine aU ?_
 refine d9 (t := true) rfl (fun _ => ?_) (fun h => by cases h)
 refine aU ?_
 have hi := (List.getElem?_eq_some_iff.1 hy1).1
 rw [List.length_reverse] at hi
 have hy2 : ({ z with fr := { z.fr with st := st }, q := q } :: r)[({ z with fr := { z.fr with st := st }, q := q } :: r).length - 1 - i]? = some y := by
  rw [← hy1, List.getElem?_reverse hi]
 have hR := b5M (p := p) (k := k) (v := v) (R := R) _ _ hy2
 have hlen : (({ z with fr := { z.fr with st := st }, q := q } :: r).modify (({ z with fr := { z.fr with st := st }, q := q } :: r).length - 1 - i) (a2M k v)).length = r.length + 1 := by simp
 have hptr := b2y (k := k) (v := v) ({ z with fr := { z.fr with st := st }, q := q } :: r) (({ z with fr := { z.fr with st := st }, q := q } :: r).length - 1 - i)
 refine b3h (y' := v) hS (f4 .u64) rfl (xv := .int .u64 v) rfl (n := k) (fo := 0) (y := w) (by simp [c9]) hw (Rp.there (Rp.there (Rp.there hR))) rfl rfl (by simp [c9]) rfl (fun S hS => ?_)
 refine aU ?_
 (repeat (first | refine i9 ?_ | refine j2 ?_ | refine j3 rfl ?_ | refine d7 ?_ | refine f7 ?_ | refine i7 ?_))
 refine ⟨trivial, _, rfl, _, ⟨({ z with fr := { z.fr with st := st }, q := q } :: r).modify (({ z with fr := { z.fr with st := st }, q := q } :: r).length - 1 - i) (a2M k v), ?_, rfl⟩, ?_⟩
 rotate_left
 ·show Ab.Sep S ((o.m, 0, [a0, mkA p, .int .i64 ek, .int .u64 ev, a4, .int .i64 dep, a6, a7, .ref o.ro o.rv 0 (List.length (({ z with fr := { z.fr with st := st }, q := q } :: r).modify (({ z with fr := { z.fr with st := st }, q := q } :: r).length - 1 - i) (a2M k v))) none, .ref o.po o.pv 0 ps.length (some 2), .int .i64 live]) :: (o.ro, o.rv, a0D (({ z with fr := { z.fr with st := st }, q := q } :: r).modify (({ z with fr := { z.fr with st := st }, q := q } :: r).length - 1 - i) (a2M k v)) ++ rj) :: _)
  rw [hlen, hptr]
  exact hS
 ·unfold a0p a8R
  rw [a5L (f := Row.toARow) (g := a2M k v) (h := a7s k v) (fun x => rfl)]
  simp
end
end Go.Proofs.Ytnpemocpfdgaoaa

/- sem's calls: the walk, operation by operation. -/
namespace Go.Proofs.Ytnpemocpfdgaoaa
open Go Go.Ab
set_option maxRecDepth 20000
set_option maxHeartbeats 2000000
def c1x : FC := .reg [⟨(some 5), none, .op (.box (.t 2))⟩] []
def c1y : FC := .reg [⟨(some 13), none, .op (.fad 0 (.t 5))⟩,  ⟨(some 14), none, .op (.load none (.t 13))⟩] []
def c1z : FC := .reg [⟨(some 36), none, .op (.bin .none .eql (.t 14) (.v (.int .u8 23)))⟩,  ⟨(some 35), none, .op (.mv (.t 36))⟩] []
def c1A : FC := .reg [⟨(some 37), none, .op (.mv (.t 1))⟩,  ⟨(some 38), none, .op (.fad 1 (.t 5))⟩,  ⟨(some 39), none, .op (.load none (.t 38))⟩,  ⟨(some 40), none, .op (.mv (.t 0))⟩,  ⟨(some 41), none, .op (.fad 1 (.t 5))⟩,  ⟨(some 42), none, .op (.load none (.t 41))⟩,  ⟨(some 43), none, .call 151 [(.t 40), (.t 42)]⟩,  ⟨(some 44), none, .call 67 [(.t 37), (.t 39), (.t 43)]⟩] [(2, 6)]
def c1B : FC := .reg [⟨(some 46), none, .op (.bin .none .eql (.t 14) (.v (.int .u8 25)))⟩,  ⟨(some 45), none, .op (.mv (.t 46))⟩] []
def c1C : FC := .reg [⟨(some 47), none, .op (.mv (.t 1))⟩,  ⟨(some 48), none, .op (.fad 1 (.t 5))⟩,  ⟨(some 49), none, .op (.load none (.t 48))⟩,  ⟨(some 50), none, .op (.mv (.t 0))⟩,  ⟨(some 51), none, .op (.fad 1 (.t 5))⟩,  ⟨(some 52), none, .op (.load none (.t 51))⟩,  ⟨(some 53), none, .call 151 [(.t 50), (.t 52)]⟩,  ⟨(some 54), none, .call 152 [(.t 47), (.t 49), (.t 53)]⟩] [(2, 6)]
def c1D : FC := .reg [⟨(some 56), none, .op (.bin .none .eql (.t 14) (.v (.int .u8 24)))⟩,  ⟨(some 55), none, .op (.mv (.t 56))⟩] []
def c1E : FC := .reg [⟨(some 6), none, .op (.mv (.v (.int .u64 0)))⟩] []
def c1F : FC := .reg [⟨(some 57), none, .op (.mv (.t 0))⟩,  ⟨(some 58), none, .op (.nchk (.t 57))⟩,  ⟨(some 59), none, .op (.fad 1 (.t 58))⟩,  ⟨(some 60), none, .op (.load none (.t 59))⟩,  ⟨(some 61), none, .op (.nchk (.t 60))⟩,  ⟨(some 62), none, .op (.fad 2 (.t 61))⟩,  ⟨(some 63), none, .op (.load none (.t 62))⟩] []
def b5N : FC := .reg [⟨(some 64), none, .op (.mv (.t 0))⟩,  ⟨(some 65), none, .call 144 [(.t 64)]⟩,  ⟨(some 6), none, .op (.mv (.t 65))⟩] []
def b5O : FC := .cond (.t 63) b5N FC.skip
def b5P : FC := .seq c1F b5O
def b5Q : FC := .reg [⟨(some 66), none, .op (.mv (.t 1))⟩,  ⟨(some 67), none, .op (.mv (.t 6))⟩,  ⟨(some 68), none, .call 153 [(.t 66), (.t 67)]⟩] []
def b5R : FC := .seq b5P b5Q
def b5S : FC := .seq c1E b5R
def b5T : FC := .reg [⟨(some 70), none, .op (.bin .none .eql (.t 14) (.v (.int .u8 26)))⟩,  ⟨(some 69), none, .op (.mv (.t 70))⟩] []
def b5U : FC := .reg [⟨(some 71), none, .op (.mv (.t 1))⟩,  ⟨(some 72), none, .op (.mv (.t 0))⟩,  ⟨(some 73), none, .call 144 [(.t 72)]⟩,  ⟨(some 74), none, .call 150 [(.t 71), (.t 73)]⟩] []
def b5V : FC := .reg [⟨(some 76), none, .op (.bin .none .eql (.t 14) (.v (.int .u8 27)))⟩,  ⟨(some 75), none, .op (.mv (.t 76))⟩] []
def b5W : FC := .reg [⟨(some 78), none, .op (.mv (.t 1))⟩,  ⟨(some 79), none, .call 154 [(.t 78)]⟩,  ⟨(some 77), none, .op (.mv (.t 79))⟩,  ⟨(some 80), none, .op (.ext 0 (.t 77))⟩,  ⟨(some 81), none, .op (.ext 1 (.t 77))⟩,  ⟨(some 7), none, .op (.mv (.t 80))⟩,  ⟨(some 8), none, .op (.mv (.t 81))⟩] []
def b5X : FC := .reg [⟨(some 82), none, .op (.mv (.t 0))⟩,  ⟨(some 83), none, .op (.mv (.t 7))⟩,  ⟨(some 84), none, .op (.mv (.t 8))⟩,  ⟨(some 85), none, .op (.bsl none [(.int .u64 0)] 2 [(0, 1, (.t 83)), (1, 1, (.t 84))])⟩,  ⟨(some 86), none, .call 143 [(.t 82), (.t 85)]⟩] []
def b5Y : FC := .seq b5W b5X
def b5Z : FC := .reg [⟨(some 88), none, .op (.bin .none .eql (.t 14) (.v (.int .u8 30)))⟩,  ⟨(some 87), none, .op (.mv (.t 88))⟩] []
def b6a : FC := .reg [⟨(some 89), none, .op (.mv (.t 1))⟩,  ⟨(some 90), none, .op (.mv (.t 0))⟩,  ⟨(some 91), none, .call 144 [(.t 90)]⟩,  ⟨(some 92), none, .op (.build [(.int .i64 0), (.int .u64 0)] [(0, 1, (.v (.int .i64 1))), (1, 1, (.t 91))])⟩,  ⟨(some 93), none, .op (.nchk (.t 89))⟩,  ⟨(some 94), none, .op (.fad 2 (.t 93))⟩,  ⟨none, none, .op (.store 2 (.t 94) (.t 92))⟩] []
def b6b : FC := .reg [⟨(some 15), none, .op (.mv (.t 0))⟩,  ⟨(some 16), none, .call 144 [(.t 15)]⟩,  ⟨(some 17), none, .op (.mv (.t 0))⟩,  ⟨(some 18), none, .call 144 [(.t 17)]⟩,  ⟨(some 9), none, .op (.mv (.t 16))⟩,  ⟨(some 10), none, .op (.mv (.t 18))⟩] []
def b6c : FC := .reg [⟨(some 20), none, .op (.fad 0 (.t 5))⟩,  ⟨(some 21), none, .op (.load none (.t 20))⟩,  ⟨(some 22), none, .op (.mv (.t 10))⟩,  ⟨(some 23), none, .op (.mv (.t 9))⟩,  ⟨(some 24), none, .call 155 [(.t 21), (.t 22), (.t 23)]⟩,  ⟨(some 19), none, .op (.mv (.t 24))⟩,  ⟨(some 25), none, .op (.ext 0 (.t 19))⟩,  ⟨(some 26), none, .op (.ext 1 (.t 19))⟩,  ⟨(some 11), none, .op (.mv (.t 25))⟩,  ⟨(some 12), none, .op (.mv (.t 26))⟩] []
def b6d : FC := .reg [⟨(some 27), none, .op (.mv (.t 12))⟩,  ⟨(some 28), none, .op (.bin .none .neq (.t 27) (.v (.int .i64 0)))⟩] []
def b6e : FC := .reg [⟨(some 29), none, .op (.mv (.t 1))⟩,  ⟨(some 30), none, .call 150 [(.t 29), (.v (.int .u64 18446744073709551615))]⟩] []
def b6f : FC := .seq b6e FC.ret
def b6g : FC := .cond (.t 28) b6f FC.skip
def b6h : FC := .seq b6d b6g
def b6i : FC := .reg [⟨(some 31), none, .op (.mv (.t 0))⟩,  ⟨(some 32), none, .op (.mv (.t 11))⟩,  ⟨(some 33), none, .op (.bsl none [(.int .u64 0)] 1 [(0, 1, (.t 32))])⟩,  ⟨(some 34), none, .call 143 [(.t 31), (.t 33)]⟩] []
def b6j : FC := .seq b6h b6i
def b6k : FC := .seq b6c b6j
def b6l : FC := .seq b6b b6k
def b6m : FC := .cond (.t 87) b6a b6l
def b6n : FC := .seq b5Z b6m
def b6o : FC := .cond (.t 75) b5Y b6n
def b6p : FC := .seq b5V b6o
def b6q : FC := .cond (.t 69) b5U b6p
def b6r : FC := .seq b5T b6q
def b6s : FC := .cond (.t 55) b5S b6r
def b6t : FC := .seq c1D b6s
def b6u : FC := .cond (.t 45) c1C b6t
def b6v : FC := .seq c1B b6u
def b6w : FC := .cond (.t 35) c1A b6v
def b6x : FC := .seq c1z b6w
def b6y : FC := .block 0 b6x
def b6z : FC := .seq c1y b6y
def b6A : FC := .seq c1x b6z
def c4E : FC := b6A
theorem a6I : Fn3 Try.prog 148 95 [] c4E := ⟨_, _, Try.func148, rfl, rfl, rfl, by kernel_rfl⟩

section
variable {a0 a4 a6 a7 : AV} {o : UO} {p : Program} {ek ev dep live : Int} {z : Row} {r : List Row} {ps ps' : List n9} {rj pj : List AV}
theorem b0L {m r q : It} {A X R : List It} : List.Perm (([m, r] ++ A) ++ (q :: (X ++ R))) (m :: r :: q :: (A ++ (X ++ R))) := by
 simp only [List.cons_append, List.nil_append]
 exact List.Perm.cons _ (List.Perm.cons _ List.perm_middle)
theorem b0M {k im : Int} {ag : List Int} {f1 f2 : SFr} (hv : z.fr.args p k = some (ag, f1)) (hs : z.fr.st.length < 1000000000) (hb : a0R p k ag (r.length + 2) = some f2) (hn : r.length < 9999999)
  (hl : ∀ g ∈ p.Funcs, g.Locals.length < 1000000000) (hd : 0 ≤ dep ∧ dep < 1000000000) :
  Tri Try.prog 148 [.ptr z.q.x 0 0, .ptr o.m 0 0, Instr.av ⟨23, k, im⟩] (uL p o a0 a4 a6 a7 ek ev dep live (z :: r) ps rj pj)
   (fun _ L' => ∃ rows', a0p rows' = ⟨f2, 0, [], 0⟩ :: { z.toARow with fr := f1 } :: a0p r ∧ L' = uL p { o with rv := o.rv + 1 } a0 a4 a6 a7 ek ev (max dep ((r.length : Int) + 2)) live rows' ps [] pj) := by
 refine j9 mixed a6I zS [] (fun R S hS => ?_)
 refine aU ?_
 refine g8 ?_
 refine aU ?_
 refine d9 (t := true) rfl (fun _ => ?_) (fun h => by cases h)
 refine a1r ?_
 refine aU ?_
 refine a0d (a6H hv hs) hS rfl (.refl _) (fun x S L' hL hS => ?_)
 obtain ⟨f, q, hq, ⟨rfl, rfl⟩, rfl⟩ := hL
 refine aU ?_
 have hS2 : Ab.Sep S ((o.m, 0, [a0, mkA p, .int .i64 ek, .int .u64 ev, a4, .int .i64 dep, a6, a7, .ref o.ro o.rv 0 (r.length + 1) none, .ref o.po o.pv 0 ps.length (some 2), .int .i64 live]) :: (o.ro, o.rv, a0D ({ z with fr := f, q := q } :: r) ++ rj) :: (o.po, o.pv, flat n9.av ps.reverse ++ pj) :: (({ z with fr := f, q := q } :: r).flatMap (a0a p) ++ R)) := hS
 refine a0d (a6C (n := r.length + 1) (dep := dep) hb zO (a3M hl hb) zS hd) hS2 rfl (Spl.cons Pk.here (Spl.cons Pk.here Spl.nil)) (fun x S L' hL hS => ?_)
 obtain ⟨s, d, q2, rfl⟩ := hL
 refine aU ?_
 refine And.intro (by simp [a0g, a5y, x7, a0B]) ?_
 (repeat (first | refine i9 ?_ | refine j2 ?_ | refine j3 rfl ?_ | refine d7 ?_ | refine f7 ?_ | refine i7 ?_))
 refine ⟨trivial, _, rfl, _, ⟨⟨⟨f2, 0, [], 0⟩, s, d, 0, [], q2⟩ :: { z with fr := f, q := q } :: r, rfl, rfl⟩, ?_⟩
 have e1 : max dep (((r.length + 1 : Nat) : Int) + 1) = max dep ((r.length : Int) + 2) := by omega
 rw [e1] at hS
 have e2 : a0D ({ z with fr := f, q := q } :: r) ++ [AV.ptr s 0 0] = a0D (⟨⟨f2, 0, [], 0⟩, s, d, 0, [], q2⟩ :: { z with fr := f, q := q } :: r) ++ [] := by simp [a0D]
 rw [e2] at hS
 have hS5 := hS.perm (b0L (A := a0a p ⟨⟨f2, 0, [], 0⟩, s, d, 0, [], q2⟩) (X := ({ z with fr := f, q := q } :: r).flatMap (a0a p)) (R := R) : List.Perm (([_, _] ++ _) ++ (_ :: (_ ++ R))) _)
 simpa [uL, List.append_assoc] using hS5
theorem b0N {k im v pmx : Int} {st : List Int} {en : Option Int} {A' : List ARow} (hst : z.fr.st = v :: st) (hs : st.length < 1000000000)
  (hv : p9 p ({ z.toARow with fr := { z.fr with st := st } } :: a0p r) (⟨v, false⟩ :: ps) = some (en, A', ps')) (hn : r.length < 9999999) (hp : ps.length < 9999999)
  (hl : ∀ g ∈ p.Funcs, g.Locals.length < 1000000000) (hd : 0 ≤ dep ∧ dep < 1000000000) (hlv : ∀ y ∈ z :: r, (y.df.length : Int) ≤ live) (hlv2 : live < 100000000) :
  Tri Try.prog 148 [.ptr z.q.x 0 0, .ptr o.m 0 0, Instr.av ⟨26, k, im⟩] (uL p o a0 a4 a6 (.int .i64 pmx) ek ev dep live (z :: r) ps rj pj)
   (fun _ L' => ∃ rv rows' rj' pj', a0p rows' = A' ∧ L' = uL p { o with rv := rv, pv := o.pv + 1 } a0 a4 a6 (.int .i64 (max pmx ((ps.length : Int) + 1))) (if en.isSome then 2 else ek) (en.getD ev) (if en.isSome then dep else max dep (A'.length : Int)) (if en.isSome then live else live - 1) rows' ps' rj' pj') := by
 refine j9 mixed a6I zS [] (fun R S hS => ?_)
 refine aU ?_
 refine g8 ?_
 refine aU ?_
 refine d9 (t := false) rfl (fun h => by cases h) (fun _ => ?_)
 refine aU ?_
 refine d9 (t := false) rfl (fun h => by cases h) (fun _ => ?_)
 refine aU ?_
 refine d9 (t := false) rfl (fun h => by cases h) (fun _ => ?_)
 refine aU ?_
 refine d9 (t := true) rfl (fun _ => ?_) (fun h => by cases h)
 refine aU ?_
 refine a0d (q8 hst hs) hS rfl (.refl _) (fun x S L' hL hS => ?_)
 obtain ⟨f, q, hq, ⟨rfl, rfl⟩, rfl⟩ := hL
 refine aU ?_
 refine a0d (a4p (o := o) (pmx := pmx) (v := v) (rows := { z with fr := { z.fr with st := st }, q := q } :: r) hv zE hp hl hd (fun y hy => by
  rcases List.mem_cons.1 hy with rfl | hy
  ·exact hlv z (.head _)
  ·exact hlv y (.tail _ hy)) hlv2) hS rfl (.refl _) (fun x S L' hL hS => ?_)
 refine aU ?_
 (repeat (first | refine i9 ?_ | refine j2 ?_ | refine j3 rfl ?_ | refine d7 ?_ | refine f7 ?_ | refine i7 ?_))
 exact ⟨trivial, _, rfl, _, hL, hS⟩
theorem b0O {k im v : Int} {st : List Int} (hst : z.fr.st = v :: st) (hs : st.length < 1000000000) :
  Tri Try.prog 148 [.ptr z.q.x 0 0, .ptr o.m 0 0, Instr.av ⟨30, k, im⟩] (uL p o a0 a4 a6 a7 ek ev dep live (z :: r) ps rj pj)
   (fun _ L' => ∃ f q, q.x = z.q.x ∧ f = { z.fr with st := st } ∧ L' = uL p o a0 a4 a6 a7 1 v dep live ({ z with fr := f, q := q } :: r) ps rj pj) := by
 refine j9 mixed a6I zS [] (fun R S hS => ?_)
 refine aU ?_
 refine g8 ?_
 refine aU ?_
 refine d9 (t := false) rfl (fun h => by cases h) (fun _ => ?_)
 refine aU ?_
 refine d9 (t := false) rfl (fun h => by cases h) (fun _ => ?_)
 refine aU ?_
 refine d9 (t := false) rfl (fun h => by cases h) (fun _ => ?_)
 refine aU ?_
 refine d9 (t := false) rfl (fun h => by cases h) (fun _ => ?_)
 refine aU ?_
 refine d9 (t := false) rfl (fun h => by cases h) (fun _ => ?_)
 refine aU ?_
 refine d9 (t := true) rfl (fun _ => ?_) (fun h => by cases h)
 refine aU ?_
 refine a0d (q8 hst hs) hS rfl (.refl _) (fun x S L' hL hS => ?_)
 obtain ⟨f, q, hq, ⟨rfl, rfl⟩, rfl⟩ := hL
 refine aU ?_
 refine E_stS hS rfl (xv := .agg [.int .i64 1, .int .u64 v]) rfl Rp.here rfl rfl (by first | exact Nat.le_of_ble_eq_true rfl | (simp; omega) | omega) (fun S hS => ?_)
 refine aU ?_
 (repeat (first | refine i9 ?_ | refine j2 ?_ | refine j3 rfl ?_ | refine d7 ?_ | refine f7 ?_ | refine i7 ?_))
 exact ⟨trivial, _, rfl, _, ⟨_, q, hq, rfl, rfl⟩, hS⟩
end
end Go.Proofs.Ytnpemocpfdgaoaa

/- sem's calls: return, defer, recover. -/
namespace Go.Proofs.Ytnpemocpfdgaoaa
open Go Go.Ab
set_option maxRecDepth 20000
set_option maxHeartbeats 2000000
section
variable {a0 a4 a6 a7 : AV} {o : UO} {p : Program} {ek ev dep live : Int} {z : Row} {r : List Row} {ps ps' : List n9} {rj pj : List AV}
def a7t (f : SFr) : Option (Int × SFr) := if f.f.Result then (match f.st with | v :: st => some (v, { f with st := st }) | [] => none) else some (0, f)
theorem a1V {R : List It} : (z.q.x, 0, frC p z.fr z.q) ∈ uL p o a0 a4 a6 a7 ek ev dep live (z :: r) ps rj pj ++ R :=
 List.mem_append_left _ (.tail _ (.tail _ (.tail _ (.tail _ (.tail _ (.head _))))))
theorem b0P {k im v : Int} {f1 : SFr} {u : RO} (hr : a7t z.fr = some (v, f1)) (hs : z.fr.st.length < 1000000000) (hv : a3N p { z.toARow with fr := f1, ret := v } (a0p r) ps = some u) (hn : r.length < 9999999) (hp : ps.length < 10000000)
  (hl : ∀ g ∈ p.Funcs, g.Locals.length < 1000000000) (hd : 0 ≤ dep ∧ dep < 1000000000) (hlv : ∀ y ∈ z :: r, Siz live y) (hlv2 : live < 100000000) :
  Tri Try.prog 148 [.ptr z.q.x 0 0, .ptr o.m 0 0, Instr.av ⟨24, k, im⟩] (uL p o a0 a4 a6 a7 ek ev dep live (z :: r) ps rj pj)
   (fun _ L' => ∃ rv rows' rj' pj', a0p rows' = u.A ∧ L' = uL p { o with rv := rv } a0 a4 a6 a7 (u.en.elim ek (·.1)) (u.en.elim ev (·.2)) (if u.push then max dep (u.A.length : Int) else dep) (if u.push then live - 1 else live) rows' u.ps rj' pj') := by
 refine j9 mixed a6I zS [] (fun R S hS => ?_)
 refine aU ?_
 refine g8 ?_
 refine aU ?_
 refine d9 (t := false) rfl (fun h => by cases h) (fun _ => ?_)
 refine aU ?_
 refine d9 (t := false) rfl (fun h => by cases h) (fun _ => ?_)
 refine aU ?_
 refine d9 (t := true) rfl (fun _ => ?_) (fun h => by cases h)
 refine aU ?_
 refine f5 hS rfl a1V (v := .cptr (Func.av z.fr.f).cells 0) rfl ?_
 refine aU ?_
 unfold a7t at hr
 refine d9 (t := z.fr.f.Result) rfl (fun hq => ?_) (fun hq => ?_)
 ·rw [hq, if_pos rfl] at hr
  obtain ⟨v1, st, hst⟩ : ∃ v1 st, z.fr.st = v1 :: st := by
   cases h : z.fr.st with
   | nil => rw [h] at hr; cases hr
   | cons a l => exact ⟨a, l, rfl⟩
  rw [hst] at hr
  cases hr
  refine aU ?_
  refine a0d (q8 hst (by rw [hst] at hs; simp at hs; omega)) hS rfl (.refl _) (fun x S L' hL hS => ?_)
  obtain ⟨f, q, hq, ⟨rfl, rfl⟩, rfl⟩ := hL
  refine aU ?_
  refine a0d (a5g (z := { z with fr := { z.fr with st := st }, q := q }) hv hn hp hl hd (fun y hy => by
   rcases List.mem_cons.1 hy with rfl | hy
   ·have h := hlv z (.head _)
    exact ⟨h.1, h.2.1, by rw [hst] at hs; simp at hs; show st.length < _; omega⟩
   ·exact hlv y (.tail _ hy)) hlv2) hS rfl (.refl _) (fun x S L' hL hS => ?_)
  refine aU ?_
  (repeat (first | refine i9 ?_ | refine j2 ?_ | refine j3 rfl ?_ | refine d7 ?_ | refine f7 ?_ | refine i7 ?_))
  exact ⟨trivial, _, rfl, _, hL, hS⟩
 ·rw [hq, if_neg zS] at hr
  cases hr
  refine aU ?_
  refine a0d (a5g hv hn hp hl hd hlv hlv2) hS rfl (.refl _) (fun x S L' hL hS => ?_)
  refine aU ?_
  (repeat (first | refine i9 ?_ | refine j2 ?_ | refine j3 rfl ?_ | refine d7 ?_ | refine f7 ?_ | refine i7 ?_))
  exact ⟨trivial, _, rfl, _, hL, hS⟩
theorem a8S {m r s d q : It} {X : List It} : List.Perm (m :: r :: s :: d :: q :: X) (m :: r :: q :: s :: d :: X) :=
 List.Perm.cons _ (List.Perm.cons _ (List.perm_middle (l₁ := [s, d])))
theorem b0Q {k im dfs : Int} {ag : List Int} {f1 : SFr} (hv : z.fr.args p k = some (ag, f1)) (hs : z.fr.st.length < 1000000000) (hn : r.length < 9999999) (hdf : z.df.length < 100000000) (hlv : 0 ≤ live ∧ live < 100000000) :
  Tri Try.prog 148 [.ptr z.q.x 0 0, .ptr o.m 0 0, Instr.av ⟨25, k, im⟩] (uL p o a0 a4 (.int .i64 dfs) a7 ek ev dep live (z :: r) ps rj pj)
   (fun _ L' => ∃ rows', a0p rows' = { z.toARow with fr := f1, df := ⟨k, ag⟩ :: z.df } :: a0p r ∧ L' = uL p o a0 a4 (.int .i64 (max dfs (live + 1))) a7 ek ev dep (live + 1) rows' ps rj pj) := by
 refine j9 mixed a6I zS [] (fun R S hS => ?_)
 refine aU ?_
 refine g8 ?_
 refine aU ?_
 refine d9 (t := false) rfl (fun h => by cases h) (fun _ => ?_)
 refine aU ?_
 refine d9 (t := true) rfl (fun _ => ?_) (fun h => by cases h)
 refine a1r ?_
 refine aU ?_
 refine a0d (a6H hv hs) hS rfl (.refl _) (fun x S L' hL hS => ?_)
 obtain ⟨f, q, hq, ⟨rfl, rfl⟩, rfl⟩ := hL
 refine aU ?_
 have hS2 : Ab.Sep S ((o.m, 0, [a0, mkA p, .int .i64 ek, .int .u64 ev, a4, .int .i64 dep, .int .i64 dfs, a7, .ref o.ro o.rv 0 (r.length + 1) none, .ref o.po o.pv 0 ps.length (some 2), .int .i64 live]) :: (o.ro, o.rv, a0D ({ z with fr := f, q := q } :: r) ++ rj) :: (o.po, o.pv, flat n9.av ps.reverse ++ pj) ::
  (z.s, 0, [.iface 128 (.ptr q.x 0 0), .int .i64 z.why, .ref z.d z.dv 0 z.df.length (some 2), .int .u64 z.ret]) :: (z.d, z.dv, flat a0J.av z.df.reverse ++ z.dj) :: (frL p f q ++ r.flatMap (a0a p) ++ R)) := by
  simpa [uL, a0a, slL, List.append_assoc] using hS
 rw [r5] at hS2
 refine a0d (a8Q (z := { z with fr := f, q := q }) (n := r.length) (rc := a0D r) (dfs := dfs) (live := live) zO zS hdf zO) hS2 rfl (Spl.cons Pk.here (Spl.cons Pk.here (Spl.cons (Pk.there Pk.here) (Spl.cons (Pk.there Pk.here) Spl.nil)))) (fun x S L' hL hS => ?_)
 subst hL
 refine aU ?_
 refine And.intro (by simp [a0g, a5y, x7, a0B]) ?_
 (repeat (first | refine i9 ?_ | refine j2 ?_ | refine j3 rfl ?_ | refine d7 ?_ | refine f7 ?_ | refine i7 ?_))
 refine ⟨trivial, _, rfl, _, ⟨{ z with fr := f, q := q, df := ⟨k, ag⟩ :: z.df, dv := z.dv + 1, dj := [] } :: r, rfl, rfl⟩, ?_⟩
 have hS5 := hS.perm (a8S (X := frL p f q ++ r.flatMap (a0a p) ++ R) : List.Perm (_ :: _ :: _ :: _ :: _ :: _) _)
 have e2 : a0D r ++ (AV.ptr z.s 0 0 :: rj) = a0D ({ z with fr := f, q := q, df := ⟨k, ag⟩ :: z.df, dv := z.dv + 1, dj := [] } :: r) ++ rj := by simp [a0D]
 rw [e2] at hS5
 simpa [uL, a0a, slL, List.append_assoc] using hS5
theorem b0R {k im : Int} (hs : z.fr.st.length < 100000000) (hn : r.length < 9999999) (hp : z.why = 2 → ps ≠ []) (hpl : ps.length < 10000000) :
  Tri Try.prog 148 [.ptr z.q.x 0 0, .ptr o.m 0 0, Instr.av ⟨27, k, im⟩] (uL p o a0 a4 a6 a7 ek ev dep live (z :: r) ps rj pj)
   (fun _ L' => ∃ f q, q.x = z.q.x ∧ f = { z.fr with st := (a2d z.why ps).1.2 :: (a2d z.why ps).1.1 :: z.fr.st } ∧ L' = uL p o a0 a4 a6 a7 ek ev dep live ({ z with fr := f, q := q } :: r) (a2d z.why ps).2 rj pj) := by
 refine j9 mixed a6I zS [] (fun R S hS => ?_)
 refine aU ?_
 refine g8 ?_
 refine aU ?_
 refine d9 (t := false) rfl (fun h => by cases h) (fun _ => ?_)
 refine aU ?_
 refine d9 (t := false) rfl (fun h => by cases h) (fun _ => ?_)
 refine aU ?_
 refine d9 (t := false) rfl (fun h => by cases h) (fun _ => ?_)
 refine aU ?_
 refine d9 (t := false) rfl (fun h => by cases h) (fun _ => ?_)
 refine aU ?_
 refine d9 (t := true) rfl (fun _ => ?_) (fun h => by cases h)
 refine aU ?_
 have hS2 : Ab.Sep S ((o.m, 0, [a0, mkA p, .int .i64 ek, .int .u64 ev, a4, .int .i64 dep, a6, a7, .ref o.ro o.rv 0 (r.length + 1) none, .ref o.po o.pv 0 ps.length (some 2), .int .i64 live]) :: (o.ro, o.rv, a0D (z :: r) ++ rj) :: (o.po, o.pv, flat n9.av ps.reverse ++ pj) ::
  (z.s, 0, [.iface 128 (.ptr z.q.x 0 0), .int .i64 z.why, .ref z.d z.dv 0 z.df.length (some 2), .int .u64 z.ret]) :: (z.d, z.dv, flat a0J.av z.df.reverse ++ z.dj) :: (frL p z.fr z.q ++ r.flatMap (a0a p) ++ R)) := by
  simpa [uL, a0a, slL, List.append_assoc] using hS
 rw [r5] at hS2
 refine a0d (a7o (z := z) (n := r.length) (rc := a0D r) (pans := ps) zO zS hp zO) hS2 rfl (Spl.cons Pk.here (Spl.cons Pk.here (Spl.cons Pk.here (Spl.cons Pk.here (Spl.cons Pk.here Spl.nil))))) (fun x S L' hL hS => ?_)
 obtain ⟨rfl, rfl⟩ := hL
 have hrl : (a2d z.why ps).2.length = ps.length := by
  unfold a2d
  cases ps with
  | nil => rfl
  | cons x l => dsimp only; split <;> rfl
 rw [← hrl, ← r5] at hS
 have hS3 : Ab.Sep S (uL p o a0 a4 a6 a7 ek ev dep live (z :: r) (a2d z.why ps).2 rj pj ++ R) := by
  simpa [uL, a0a, slL, List.append_assoc] using hS
 refine aU ?_
 refine a0d (a0b (ex := true) (vs := [(a2d z.why ps).1.1, (a2d z.why ps).1.2]) zO zS) hS3 rfl (.refl _) (fun x S L' hL hS => ?_)
 refine aU ?_
 (repeat (first | refine i9 ?_ | refine j2 ?_ | refine j3 rfl ?_ | refine d7 ?_ | refine f7 ?_ | refine i7 ?_))
 exact ⟨trivial, _, rfl, _, hL, hS⟩
end
end Go.Proofs.Ytnpemocpfdgaoaa

/- sem's calls: reckoning. -/
namespace Go.Proofs.Ytnpemocpfdgaoaa
open Go Go.Ab
set_option maxRecDepth 20000
set_option maxHeartbeats 2000000
section
variable {a0 a4 a6 a7 : AV} {o : UO} {p : Program} {ek ev dep live : Int} {z : Row} {r : List Row} {ps ps' : List n9} {rj pj : List AV}
def a8r (op : Int) : Prop := (op == 23) = false ∧ (op == 25) = false ∧ (op == 24) = false ∧ (op == 26) = false ∧ (op == 27) = false ∧ (op == 30) = false
theorem b0S {op k im a b v : Int} {st : List Int} (hop : a8r op) (hst : z.fr.st = b :: a :: st) (hs : st.length < 100000000) (hv : z9 op a b = some (v, 0)) :
  Tri Try.prog 148 [.ptr z.q.x 0 0, .ptr o.m 0 0, Instr.av ⟨op, k, im⟩] (uL p o a0 a4 a6 a7 ek ev dep live (z :: r) ps rj pj)
   (fun _ L' => ∃ f q, q.x = z.q.x ∧ f = { z.fr with st := v :: st } ∧ L' = uL p o a0 a4 a6 a7 ek ev dep live ({ z with fr := f, q := q } :: r) ps rj pj) := by
 obtain ⟨o1, o2, o3, o4, o5, o6⟩ := hop
 refine j9 mixed a6I zS [] (fun R S hS => ?_)
 refine aU ?_
 refine g8 ?_
 refine aU ?_
 refine d9 (t := false) (by show AV.bool (op == 23) = _; rw [o1]) (fun h => by cases h) (fun _ => ?_)
 refine aU ?_
 refine d9 (t := false) (by show AV.bool (op == 25) = _; rw [o2]) (fun h => by cases h) (fun _ => ?_)
 refine aU ?_
 refine d9 (t := false) (by show AV.bool (op == 24) = _; rw [o3]) (fun h => by cases h) (fun _ => ?_)
 refine aU ?_
 refine d9 (t := false) (by show AV.bool (op == 26) = _; rw [o4]) (fun h => by cases h) (fun _ => ?_)
 refine aU ?_
 refine d9 (t := false) (by show AV.bool (op == 27) = _; rw [o5]) (fun h => by cases h) (fun _ => ?_)
 refine aU ?_
 refine d9 (t := false) (by show AV.bool (op == 30) = _; rw [o6]) (fun h => by cases h) (fun _ => ?_)
 refine aU ?_
 refine a0d (q8 hst zE) hS rfl (.refl _) (fun x S L' hL hS => ?_)
 obtain ⟨f, q, hq, ⟨rfl, rfl⟩, rfl⟩ := hL
 refine aU ?_
 refine a0d (q8 (z := { z with fr := { z.fr with st := a :: st }, q := q }) (v := a) (st := st) rfl zO) hS (by show [AV.ptr z.q.x 0 0] = [AV.ptr q.x 0 0]; rw [hq]) (.refl _) (fun x S L' hL hS => ?_)
 obtain ⟨f, q2, hq2, ⟨rfl, rfl⟩, rfl⟩ := hL
 refine aU ?_
 refine a3w (a5e hv) rfl rfl rfl ?_
 refine aU ?_
 refine d9 (t := false) rfl (fun h => by cases h) (fun _ => ?_)
 refine aU ?_
 refine a0d (a0b (z := { z with fr := { z.fr with st := st }, q := q2 }) (ex := true) (vs := [v]) (by show st.length < _; omega) zS) hS (by show [AV.ptr z.q.x 0 0, _] = [AV.ptr q2.x 0 0, _]; rw [hq2, ← hq]; rfl) (.refl _) (fun x S L' hL hS => ?_)
 obtain ⟨f, q3, hq3, rfl, rfl⟩ := hL
 refine aU ?_
 (repeat (first | refine i9 ?_ | refine j2 ?_ | refine j3 rfl ?_ | refine d7 ?_ | refine f7 ?_ | refine i7 ?_))
 exact ⟨trivial, _, rfl, _, ⟨_, q3, (hq3.trans hq2).trans hq, rfl, rfl⟩, hS⟩
theorem b0T {op k im a b v e pmx : Int} {st : List Int} {en : Option Int} {A' : List ARow} (hop : a8r op) (hst : z.fr.st = b :: a :: st) (hs : st.length < 100000000) (hw : z9 op a b = some (v, e)) (he : e ≠ 0)
  (hv : p9 p ({ z.toARow with fr := { z.fr with st := st } } :: a0p r) (⟨18446744073709551615, false⟩ :: ps) = some (en, A', ps')) (hn : r.length < 9999999) (hp : ps.length < 9999999)
  (hl : ∀ g ∈ p.Funcs, g.Locals.length < 1000000000) (hd : 0 ≤ dep ∧ dep < 1000000000) (hlv : ∀ y ∈ z :: r, (y.df.length : Int) ≤ live) (hlv2 : live < 100000000) :
  Tri Try.prog 148 [.ptr z.q.x 0 0, .ptr o.m 0 0, Instr.av ⟨op, k, im⟩] (uL p o a0 a4 a6 (.int .i64 pmx) ek ev dep live (z :: r) ps rj pj)
   (fun _ L' => ∃ rv rows' rj' pj', a0p rows' = A' ∧ L' = uL p { o with rv := rv, pv := o.pv + 1 } a0 a4 a6 (.int .i64 (max pmx ((ps.length : Int) + 1))) (if en.isSome then 2 else ek) (en.getD ev) (if en.isSome then dep else max dep (A'.length : Int)) (if en.isSome then live else live - 1) rows' ps' rj' pj') := by
 obtain ⟨o1, o2, o3, o4, o5, o6⟩ := hop
 refine j9 mixed a6I zS [] (fun R S hS => ?_)
 refine aU ?_
 refine g8 ?_
 refine aU ?_
 refine d9 (t := false) (by show AV.bool (op == 23) = _; rw [o1]) (fun h => by cases h) (fun _ => ?_)
 refine aU ?_
 refine d9 (t := false) (by show AV.bool (op == 25) = _; rw [o2]) (fun h => by cases h) (fun _ => ?_)
 refine aU ?_
 refine d9 (t := false) (by show AV.bool (op == 24) = _; rw [o3]) (fun h => by cases h) (fun _ => ?_)
 refine aU ?_
 refine d9 (t := false) (by show AV.bool (op == 26) = _; rw [o4]) (fun h => by cases h) (fun _ => ?_)
 refine aU ?_
 refine d9 (t := false) (by show AV.bool (op == 27) = _; rw [o5]) (fun h => by cases h) (fun _ => ?_)
 refine aU ?_
 refine d9 (t := false) (by show AV.bool (op == 30) = _; rw [o6]) (fun h => by cases h) (fun _ => ?_)
 refine aU ?_
 refine a0d (q8 hst zE) hS rfl (.refl _) (fun x S L' hL hS => ?_)
 obtain ⟨f, q, hq, ⟨rfl, rfl⟩, rfl⟩ := hL
 refine aU ?_
 refine a0d (q8 (z := { z with fr := { z.fr with st := a :: st }, q := q }) (v := a) (st := st) rfl zO) hS (by show [AV.ptr z.q.x 0 0] = [AV.ptr q.x 0 0]; rw [hq]) (.refl _) (fun x S L' hL hS => ?_)
 obtain ⟨f, q2, hq2, ⟨rfl, rfl⟩, rfl⟩ := hL
 refine aU ?_
 refine a3w (a5e hw) rfl rfl rfl ?_
 refine aU ?_
 refine d9 (t := true) (by show AV.bool (e != 0) = _; rw [show (e != 0) = true by simpa using he]) (fun _ => ?_) (fun h => by cases h)
 refine aU ?_
 refine a0d (a4p (o := o) (pmx := pmx) (v := 18446744073709551615) (rows := { z with fr := { z.fr with st := st }, q := q2 } :: r) hv zE hp hl hd (fun y hy => by
  rcases List.mem_cons.1 hy with rfl | hy
  ·exact hlv z (.head _)
  ·exact hlv y (.tail _ hy)) hlv2) hS rfl (.refl _) (fun x S L' hL hS => ?_)
 refine aU ?_
 refine f9 ?_
 (repeat (first | refine i9 ?_ | refine j2 ?_ | refine j3 rfl ?_ | refine d7 ?_ | refine f7 ?_ | refine i7 ?_))
 exact ⟨trivial, _, rfl, _, hL, hS⟩
end
end Go.Proofs.Ytnpemocpfdgaoaa

/- sem.frame's Step: what comes ahead of its operations. -/
namespace Go.Proofs.Ytnpemocpfdgaoaa
open Go Go.Ab
set_option maxRecDepth 20000
set_option maxHeartbeats 2000000
def c1G : FC := .reg [⟨(some 6), none, .op (.mv (.t 0))⟩,  ⟨(some 7), none, .op (.nchk (.t 6))⟩,  ⟨(some 8), none, .op (.fad 1 (.t 7))⟩,  ⟨(some 9), none, .op (.load none (.t 8))⟩,  ⟨(some 10), none, .op (.nchk (.t 9))⟩,  ⟨(some 11), none, .op (.fad 4 (.t 10))⟩,  ⟨(some 12), none, .op (.load none (.t 11))⟩,  ⟨(some 13), none, .op (.mv (.t 0))⟩,  ⟨(some 14), none, .op (.nchk (.t 13))⟩,  ⟨(some 15), none, .op (.fad 4 (.t 14))⟩,  ⟨(some 16), none, .op (.load none (.t 15))⟩,  ⟨(some 17), none, .op (.iad none (some 3) (.t 12) (.t 16))⟩,  ⟨(some 18), none, .op (.load (some 3) (.t 17))⟩,  ⟨(some 4), none, .op (.new [(.int .u8 0), (.int .i64 0), (.int .u64 0)])⟩,  ⟨none, none, .op (.store 3 (.t 4) (.t 18))⟩] [(3, 13), (6, 13), (10, 13), (12, 13)]
def c1H : FC := .reg [⟨(some 19), none, .op (.mv (.t 0))⟩,  ⟨(some 20), none, .op (.nchk (.t 19))⟩,  ⟨(some 21), none, .op (.fad 4 (.t 20))⟩,  ⟨(some 22), none, .op (.load none (.t 21))⟩,  ⟨(some 23), none, .op (.bin .none .add (.t 22) (.v (.int .i64 1)))⟩,  ⟨(some 24), none, .op (.nchk (.t 19))⟩,  ⟨(some 25), none, .op (.fad 4 (.t 24))⟩,  ⟨none, none, .op (.store 1 (.t 25) (.t 23))⟩] []
def c1I : FC := .reg [⟨(some 26), none, .op (.fad 0 (.t 4))⟩,  ⟨(some 27), none, .op (.load none (.t 26))⟩] []
def c1J : FC := .reg [⟨(some 33), none, .op (.bin .none .eql (.t 27) (.v (.int .u8 1)))⟩,  ⟨(some 32), none, .op (.mv (.t 33))⟩] []
def c1K : FC := .reg [⟨(some 34), none, .op (.mv (.t 0))⟩,  ⟨(some 35), none, .op (.fad 2 (.t 4))⟩,  ⟨(some 36), none, .op (.load none (.t 35))⟩,  ⟨(some 37), none, .op (.bsl none [(.int .u64 0)] 1 [(0, 1, (.t 36))])⟩,  ⟨(some 38), none, .call 143 [(.t 34), (.t 37)]⟩] []
def c1L : FC := .reg [⟨(some 40), none, .op (.bin .none .eql (.t 27) (.v (.int .u8 2)))⟩,  ⟨(some 39), none, .op (.mv (.t 40))⟩] []
def c1M : FC := .reg [⟨(some 41), none, .op (.mv (.t 0))⟩,  ⟨(some 42), none, .op (.mv (.t 0))⟩,  ⟨(some 43), none, .op (.nchk (.t 42))⟩,  ⟨(some 44), none, .op (.fad 2 (.t 43))⟩,  ⟨(some 45), none, .op (.load none (.t 44))⟩,  ⟨(some 46), none, .op (.fad 1 (.t 4))⟩,  ⟨(some 47), none, .op (.load none (.t 46))⟩,  ⟨(some 48), none, .op (.iad none none (.t 45) (.t 47))⟩,  ⟨(some 49), none, .op (.load none (.t 48))⟩,  ⟨(some 50), none, .op (.bsl none [(.int .u64 0)] 1 [(0, 1, (.t 49))])⟩,  ⟨(some 51), none, .call 143 [(.t 41), (.t 50)]⟩] []
def c1N : FC := .reg [⟨(some 53), none, .op (.bin .none .eql (.t 27) (.v (.int .u8 3)))⟩,  ⟨(some 52), none, .op (.mv (.t 53))⟩] []
def c1O : FC := .reg [⟨(some 54), none, .op (.mv (.t 0))⟩,  ⟨(some 55), none, .op (.nchk (.t 54))⟩,  ⟨(some 56), none, .op (.fad 2 (.t 55))⟩,  ⟨(some 57), none, .op (.load none (.t 56))⟩,  ⟨(some 58), none, .op (.fad 1 (.t 4))⟩,  ⟨(some 59), none, .op (.load none (.t 58))⟩,  ⟨(some 60), none, .op (.mv (.t 0))⟩,  ⟨(some 61), none, .call 144 [(.t 60)]⟩,  ⟨(some 62), none, .op (.iad none none (.t 57) (.t 59))⟩,  ⟨none, none, .op (.store 1 (.t 62) (.t 61))⟩] [(3, 7), (5, 7)]
def b6B : FC := .reg [⟨(some 64), none, .op (.bin .none .eql (.t 27) (.v (.int .u8 4)))⟩,  ⟨(some 63), none, .op (.mv (.t 64))⟩] []
def b6C : FC := .reg [⟨(some 65), none, .op (.mv (.t 0))⟩,  ⟨(some 66), none, .op (.mv (.t 0))⟩,  ⟨(some 67), none, .op (.nchk (.t 66))⟩,  ⟨(some 68), none, .op (.fad 5 (.t 67))⟩,  ⟨(some 69), none, .op (.load none (.t 68))⟩,  ⟨(some 70), none, .op (.fad 1 (.t 4))⟩,  ⟨(some 71), none, .op (.load none (.t 70))⟩,  ⟨(some 72), none, .call 145 [(.t 69), (.t 71)]⟩,  ⟨(some 73), none, .op (.bsl none [(.int .u64 0)] 1 [(0, 1, (.t 72))])⟩,  ⟨(some 74), none, .call 143 [(.t 65), (.t 73)]⟩] []
def b6D : FC := .reg [⟨(some 76), none, .op (.bin .none .eql (.t 27) (.v (.int .u8 5)))⟩,  ⟨(some 75), none, .op (.mv (.t 76))⟩] []
def b6E : FC := .reg [⟨(some 77), none, .op (.mv (.t 0))⟩,  ⟨(some 78), none, .op (.mv (.t 1))⟩,  ⟨(some 79), none, .call 146 [(.t 77), (.t 78), (.v (.int .u64 0)), (.v (.bool false))]⟩] []
def b6F : FC := .reg [⟨(some 81), none, .op (.bin .none .eql (.t 27) (.v (.int .u8 6)))⟩,  ⟨(some 80), none, .op (.mv (.t 81))⟩] []
def b6G : FC := .reg [⟨(some 82), none, .op (.mv (.t 0))⟩,  ⟨(some 83), none, .op (.mv (.t 1))⟩,  ⟨(some 84), none, .op (.mv (.t 0))⟩,  ⟨(some 85), none, .call 144 [(.t 84)]⟩,  ⟨(some 86), none, .call 146 [(.t 82), (.t 83), (.t 85), (.v (.bool true))]⟩] []
def b6H : FC := .reg [⟨(some 88), none, .op (.bin .none .eql (.t 27) (.v (.int .u8 21)))⟩,  ⟨(some 87), none, .op (.mv (.t 88))⟩] []
def b6I : FC := .reg [⟨(some 89), none, .op (.mv (.t 0))⟩,  ⟨(some 90), none, .op (.fad 1 (.t 4))⟩,  ⟨(some 91), none, .op (.load none (.t 90))⟩,  ⟨(some 92), none, .op (.nchk (.t 89))⟩,  ⟨(some 93), none, .op (.fad 4 (.t 92))⟩,  ⟨none, none, .op (.store 1 (.t 93) (.t 91))⟩] []
def b6J : FC := .reg [⟨(some 95), none, .op (.bin .none .eql (.t 27) (.v (.int .u8 22)))⟩,  ⟨(some 94), none, .op (.mv (.t 95))⟩] []
def b6K : FC := .reg [⟨(some 96), none, .op (.mv (.t 0))⟩,  ⟨(some 97), none, .call 144 [(.t 96)]⟩,  ⟨(some 98), none, .op (.bin .none .eql (.t 97) (.v (.int .u64 0)))⟩] []
def b6L : FC := .reg [⟨(some 99), none, .op (.mv (.t 0))⟩,  ⟨(some 100), none, .op (.fad 1 (.t 4))⟩,  ⟨(some 101), none, .op (.load none (.t 100))⟩,  ⟨(some 102), none, .op (.nchk (.t 99))⟩,  ⟨(some 103), none, .op (.fad 4 (.t 102))⟩,  ⟨none, none, .op (.store 1 (.t 103) (.t 101))⟩] []
def b6M : FC := .cond (.t 98) b6L FC.skip
def b6N : FC := .seq b6K b6M
def b6O : FC := .reg [⟨(some 105), none, .op (.bin .none .eql (.t 27) (.v (.int .u8 31)))⟩,  ⟨(some 104), none, .op (.mv (.t 105))⟩] []
def b6P : FC := .reg [⟨(some 106), none, .op (.mv (.t 0))⟩,  ⟨(some 107), none, .call 144 [(.t 106)]⟩] []
def b6Q : FC := .reg [⟨(some 109), none, .op (.bin .none .eql (.t 27) (.v (.int .u8 32)))⟩,  ⟨(some 108), none, .op (.mv (.t 109))⟩] []
def b6R : FC := .reg [⟨(some 110), none, .op (.mv (.t 0))⟩,  ⟨(some 111), none, .call 144 [(.t 110)]⟩,  ⟨(some 5), none, .op (.mv (.t 111))⟩] []
def b6S : FC := .reg [⟨(some 112), none, .op (.mv (.t 0))⟩,  ⟨(some 113), none, .op (.mv (.t 5))⟩,  ⟨(some 114), none, .op (.mv (.t 5))⟩,  ⟨(some 115), none, .op (.bsl none [(.int .u64 0)] 2 [(0, 1, (.t 113)), (1, 1, (.t 114))])⟩,  ⟨(some 116), none, .call 143 [(.t 112), (.t 115)]⟩] []
def b6T : FC := .seq b6R b6S
def b6U : FC := .reg [⟨(some 118), none, .op (.bin .none .eql (.t 27) (.v (.int .u8 28)))⟩,  ⟨(some 117), none, .op (.mv (.t 118))⟩] []
def b6V : FC := .reg [⟨(some 119), none, .op (.mv (.t 0))⟩,  ⟨(some 120), none, .op (.mv (.t 1))⟩,  ⟨(some 121), none, .op (.nchk (.t 120))⟩,  ⟨(some 122), none, .op (.fad 0 (.t 121))⟩,  ⟨(some 123), none, .op (.load none (.t 122))⟩,  ⟨(some 124), none, .call 139 [(.t 123)]⟩,  ⟨(some 125), none, .op (.bsl none [(.int .u64 0)] 1 [(0, 1, (.t 124))])⟩,  ⟨(some 126), none, .call 143 [(.t 119), (.t 125)]⟩] []
def b6W : FC := .reg [⟨(some 128), none, .op (.bin .none .eql (.t 27) (.v (.int .u8 29)))⟩,  ⟨(some 127), none, .op (.mv (.t 128))⟩] []
def b6X : FC := .reg [⟨(some 129), none, .op (.mv (.t 1))⟩,  ⟨(some 130), none, .op (.nchk (.t 129))⟩,  ⟨(some 131), none, .op (.fad 0 (.t 130))⟩,  ⟨(some 132), none, .op (.load none (.t 131))⟩,  ⟨(some 133), none, .op (.mv (.t 0))⟩,  ⟨(some 134), none, .call 144 [(.t 133)]⟩,  ⟨(some 135), none, .call 147 [(.t 132), (.t 134)]⟩] [(3, 5)]
def b6Y : FC := .reg [⟨(some 28), none, .op (.mv (.t 0))⟩,  ⟨(some 29), none, .op (.mv (.t 1))⟩,  ⟨(some 30), none, .op (.load (some 3) (.t 4))⟩,  ⟨(some 31), none, .call 148 [(.t 28), (.t 29), (.t 30)]⟩] []
def b6Z : FC := .cond (.t 127) b6X b6Y
def b7a : FC := .seq b6W b6Z
def b7b : FC := .cond (.t 117) b6V b7a
def b7c : FC := .seq b6U b7b
def b7d : FC := .cond (.t 108) b6T b7c
def b7e : FC := .seq b6Q b7d
def b7f : FC := .cond (.t 104) b6P b7e
def b7g : FC := .seq b6O b7f
def b7h : FC := .cond (.t 94) b6N b7g
def b7i : FC := .seq b6J b7h
def b7j : FC := .cond (.t 87) b6I b7i
def b7k : FC := .seq b6H b7j
def b7l : FC := .cond (.t 80) b6G b7k
def b7m : FC := .seq b6F b7l
def b7n : FC := .cond (.t 75) b6E b7m
def b7o : FC := .seq b6D b7n
def b7p : FC := .cond (.t 63) b6C b7o
def b7q : FC := .seq b6B b7p
def b7r : FC := .cond (.t 52) c1O b7q
def b7s : FC := .seq c1N b7r
def b7t : FC := .cond (.t 39) c1M b7s
def b7u : FC := .seq c1L b7t
def b7v : FC := .cond (.t 32) c1K b7u
def b7w : FC := .seq c1J b7v
def b7x : FC := .block 0 b7w
def b0U : FC := .seq c1I b7x
def b7y : FC := .seq c1H b0U
def b7z : FC := .seq c1G b7y
def c1P : FC := b7z
theorem a2N : Fn3 Try.prog 142 136 [] c1P := ⟨_, _, Try.func142, rfl, rfl, rfl, by kernel_rfl⟩

section
variable {a0 a4 a6 a7 : AV} {o : UO} {p : Program} {ek ev dep live : Int} {z : Row} {r : List Row} {ps ps' : List n9} {rj pj : List AV}
theorem t6 {i : Instr} {R : List It} {S : List Ob} {K : Post} (hi : r7 z.fr.f.Code z.fr.pc = some i) (hpc : z.fr.pc < 4611686018427387904) (hS : Ab.Sep S (uL p o a0 a4 a6 a7 ek ev dep live (z :: r) ps rj pj ++ R))
  (h : ∀ oi S', Ab.Sep S' (uL p o a0 a4 a6 a7 ek ev dep live ({ z with fr := { z.fr with pc := z.fr.pc + 1 } } :: r) ps rj pj ++ ((oi, 0, i.cells) :: R)) → VT Try.prog S [4] b0U [(0, .ptr z.q.x 0 0), (1, .ptr o.m 0 0), (4, .ptr oi 0 0)] S' K) :
  VT Try.prog S [4] c1P (a0j 0 [.ptr z.q.x 0 0, .ptr o.m 0 0]) S K := by
 have hi0 := (g6 hi).1
 refine d6 ?_
 refine a1r ?_
 refine aS ?_
 refine f5 hS rfl a1V (v := .cptr (Func.av z.fr.f).cells 0) rfl ?_
 refine aU ?_
 refine f5 hS rfl a1V (v := .int .i64 z.fr.pc) rfl ?_
 refine aU ?_
 refine q9 (esh := some 3) (f := Instr.av) (ys := z.fr.f.Code) (y := i) rfl rfl hi ?_
 refine aU ?_
 have hlt : z.q.x < S.length := hS.lt a1V
 refine b2i hS rfl (fun oi S1 hS1 => ?_)
 have hne : z.q.x ≠ oi := fun e => (List.nodup_cons.1 hS1.2).1 (by rw [← e]; exact List.mem_map.2 ⟨_, a1V, rfl⟩)
 refine E_stS hS1 rfl (xv := i.av) rfl Rp.here rfl rfl (by first | exact Nat.le_of_ble_eq_true rfl | (simp; omega) | omega) (fun S1 hS1 => ?_)
 refine b9 ?_
 refine And.intro (by simp [a0g, a5y, x7, a0B, hne, Ne.symm hne]) ?_
 refine d8 ?_
 refine d6 ?_
 refine c7 ?_
 refine aS ?_
 refine f5 hS1 rfl (.tail _ a1V) (v := .int .i64 z.fr.pc) rfl ?_
 refine aS ?_
 have hS2 : Ab.Sep S1 ((oi, 0, i.cells) :: (o.m, 0, [a0, mkA p, .int .i64 ek, .int .u64 ev, a4, .int .i64 dep, a6, a7, .ref o.ro o.rv 0 (r.length + 1) none, .ref o.po o.pv 0 ps.length (some 2), .int .i64 live]) :: (o.ro, o.rv, a0D (z :: r) ++ rj) :: (o.po, o.pv, flat n9.av ps.reverse ++ pj) ::
  (z.s, 0, [.iface 128 (.ptr z.q.x 0 0), .int .i64 z.why, .ref z.d z.dv 0 z.df.length (some 2), .int .u64 z.ret]) :: (z.d, z.dv, flat a0J.av z.df.reverse ++ z.dj) :: (z.q.x, 0, frC p z.fr z.q) :: ([(z.q.l, 0, flat (avI .u64) z.fr.lo), (z.q.t, z.q.tv, flat (avI .u64) z.fr.st.reverse ++ z.q.tj)] ++ r.flatMap (a0a p) ++ R)) := hS1
 refine E_stS hS2 rfl (xv := .int .i64 (z.fr.pc + 1)) (by show AV.int .i64 (IntKind.i64.wrap (z.fr.pc + 1)) = _; rw [r9 zO]) (Rp.there (Rp.there (Rp.there (Rp.there (Rp.there (Rp.there Rp.here)))))) rfl rfl (by first | exact Nat.le_of_ble_eq_true rfl | (simp; omega) | omega) (fun S2 hS3 => ?_)
 refine b9 ?_
 exact a4E (F := [(0, .ptr z.q.x 0 0), (1, .ptr o.m 0 0), (4, .ptr oi 0 0)]) (a1m ⟨.refl _, .refl _, .refl _, trivial⟩) (h oi S2 (Sep.perm (L := (oi, 0, i.cells) :: (uL p o a0 a4 a6 a7 ek ev dep live ({ z with fr := { z.fr with pc := z.fr.pc + 1 } } :: r) ps rj pj ++ R)) hS3 List.perm_middle.symm))
theorem a0h {oi : It} {A R : List It} {S : List Ob} (h : Ab.Sep S (A ++ (oi :: R))) : Ab.Sep S (A ++ R) := h.sub (List.Sublist.append_left (List.sublist_cons_self _ _) _)
def a2O (op : Int) : Prop := (op == 1) = false ∧ (op == 2) = false ∧ (op == 3) = false ∧ (op == 4) = false ∧ (op == 5) = false ∧ (op == 6) = false ∧ (op == 21) = false ∧ (op == 22) = false ∧ (op == 31) = false ∧ (op == 32) = false ∧ (op == 28) = false ∧ (op == 29) = false
theorem a0c {i : Instr} {Q : List It → Prop} (hi : r7 z.fr.f.Code z.fr.pc = some i) (hpc : z.fr.pc < 4611686018427387904) (hop : a2O i.Op)
  (c : Tri Try.prog 148 [.ptr z.q.x 0 0, .ptr o.m 0 0, i.av] (uL p o a0 a4 a6 a7 ek ev dep live ({ z with fr := { z.fr with pc := z.fr.pc + 1 } } :: r) ps rj pj) (fun _ L' => Q L')) :
  Tri Try.prog 142 [.ptr z.q.x 0 0, .ptr o.m 0 0] (uL p o a0 a4 a6 a7 ek ev dep live (z :: r) ps rj pj) (fun _ L' => Q L') := by
 obtain ⟨o1, o2, o3, o4, o5, o6, o7, o8, o9, o10, o11, o12⟩ := hop
 refine j9 mixed a2N zS [4] (fun R S hS => t6 hi hpc hS (fun oi S hS => ?_))
 refine aU ?_
 refine f5 hS rfl (List.mem_append_right _ (.head _)) (v := .int .u8 i.Op) rfl ?_
 refine aU ?_
 refine g8 ?_
 refine aU ?_
 refine d9 (t := false) (by show AV.bool (i.Op == 1) = _; rw [o1]) (fun h => by cases h) (fun _ => ?_)
 refine aU ?_
 refine d9 (t := false) (by show AV.bool (i.Op == 2) = _; rw [o2]) (fun h => by cases h) (fun _ => ?_)
 refine aU ?_
 refine d9 (t := false) (by show AV.bool (i.Op == 3) = _; rw [o3]) (fun h => by cases h) (fun _ => ?_)
 refine aU ?_
 refine d9 (t := false) (by show AV.bool (i.Op == 4) = _; rw [o4]) (fun h => by cases h) (fun _ => ?_)
 refine aU ?_
 refine d9 (t := false) (by show AV.bool (i.Op == 5) = _; rw [o5]) (fun h => by cases h) (fun _ => ?_)
 refine aU ?_
 refine d9 (t := false) (by show AV.bool (i.Op == 6) = _; rw [o6]) (fun h => by cases h) (fun _ => ?_)
 refine aU ?_
 refine d9 (t := false) (by show AV.bool (i.Op == 21) = _; rw [o7]) (fun h => by cases h) (fun _ => ?_)
 refine aU ?_
 refine d9 (t := false) (by show AV.bool (i.Op == 22) = _; rw [o8]) (fun h => by cases h) (fun _ => ?_)
 refine aU ?_
 refine d9 (t := false) (by show AV.bool (i.Op == 31) = _; rw [o9]) (fun h => by cases h) (fun _ => ?_)
 refine aU ?_
 refine d9 (t := false) (by show AV.bool (i.Op == 32) = _; rw [o10]) (fun h => by cases h) (fun _ => ?_)
 refine aU ?_
 refine d9 (t := false) (by show AV.bool (i.Op == 28) = _; rw [o11]) (fun h => by cases h) (fun _ => ?_)
 refine aU ?_
 refine d9 (t := false) (by show AV.bool (i.Op == 29) = _; rw [o12]) (fun h => by cases h) (fun _ => ?_)
 refine aU ?_
 refine f5 hS rfl (List.mem_append_right _ (.head _)) (v := i.av) rfl ?_
 refine aU ?_
 refine a0d c hS rfl (.refl _) (fun x S L' hL hS => ?_)
 refine aU ?_
 (repeat (first | refine i9 ?_ | refine j2 ?_ | refine j3 rfl ?_ | refine d7 ?_ | refine f7 ?_ | refine i7 ?_))
 exact ⟨trivial, _, rfl, _, hL, a0h hS⟩
end
end Go.Proofs.Ytnpemocpfdgaoaa

