/- Contracts and laws. -/
import Derived.Test.YtjmopgepnndckaaGreatDoorC47
import Derived.Test.YtjmopgepnndckaaGreatDoorC48
set_option linter.unusedSimpArgs false
set_option linter.unusedVariables false
set_option maxHeartbeats 16000000
set_option maxRecDepth 100000
namespace Go.Proofs.YtjmopgepnndckaaGreatDoor
open Go Go.RowKit
structure RowO (B n : Nat) (R : Ax) (rs : List Rq) (W : World) : Prop where
 rows : F9 B W rs
 row : W.ownsRow B 35 1 (.slice R.1 n R.2) n (rs.map R9)
theorem RowO.grow {B n : Nat} {R : Ax} {rs : List Rq} {W W' : World} (h : RowO B n R rs W) (hg : A3 W W') : RowO B n R rs W' := ⟨h.rows.grow hg, D4 h.row hg⟩
theorem RowO.mono {B B' n : Nat} {R : Ax} {rs : List Rq} {W : World} (h : RowO B n R rs W) (hb : B' ≤ B) : RowO B' n R rs W := ⟨fun r hr => (h.rows r hr).mono hb, h.row.mono hb⟩
theorem RowO.put {B n b i : Nat} {R : Ax} {rs : List Rq} {W W' : World} {t : TypeId} {cs : Array Value} {vs : List Value} (h : RowO B n R rs W) (hb : Blk W b t cs) (h1 : 35 ≠ t) (h2 : 49 ≠ t) (hu : E2 W b i vs = W') : RowO B n R rs W' :=
 ⟨fun r hr => W5 (h.rows r hr) hb h2 hu, W5 h.row hb h1 hu⟩
theorem RowO.own {B n B0 k m : Nat} {R : Ax} {rs : List Rq} {W W' : World} {e : TypeId} {v : Value} {xs : List Value} (h : RowO B n R rs W) (ho : W.ownsRow B0 e k v m xs) (h1 : e ≠ 35) (h2 : e ≠ 49) (hg : W.grownBy W' v.ownBlock) : RowO B n R rs W' :=
 ⟨F9.kept' h.rows ho h2 hg, B3M h.row ho h1 hg⟩
theorem RowO.lrq {B n : Nat} {R : Ax} {rs : List Rq} {W : World} (h : RowO B n R rs W) : Lrq W R.1 rs := by
 obtain ⟨A, c, e, -, hL, -⟩ := A7F h.row h.rows
 cases e
 exact hL
theorem B05 : EI 77 88 4 32 := U7 (by kernel_rfl) (by kernel_rfl) (by omega)
theorem A9t {u : World} {B n c : Nat} {A : Option Addr} {ns : List NdT} (h : u.ownsRow B 88 4 (.slice A n c) n (ns.flatMap ndL)) : Le ndL 4 u A ns := by
 obtain ⟨A2, c2, e2, -, hN, -⟩ := A2y (enc := ndL) (k := 4) (fun _ => rfl) (by omega) h
 cases e2
 exact hN
theorem A7j (RA NA : Option Addr) (RC NC N m Lw : Nat) (rs : List Rq) (ns : List NdT) (hok : A0M N Lw rs) (hN : N ≤ 300) (hL : Lw ≤ 20) (hm : ns.length = m) (hm2 : m ≤ 300) (w : World) (h : Lrz w RA rs) (g : Le ndL 4 w NA ns) (HT : Tab w) :
  Calls Tryz.prog 31 #[E6 (RA, RC) N (NA, NC) m] w (I1 (fun x : (Ax × Ax) × List Rq => E6 x.1.1 N x.1.2 m) (fun x W => (Lrq W x.1.1.1 x.2 ∧ Le ndL 4 W x.1.2.1 ns) ∧ x.2.map (·.2.2) = rs.map (·.2.2)) w) := by
 have hLIM : LIM = 1099511627760 := rfl
 have hBB : 100000 ≤ BIG := by unfold BIG; omega
 have hir : ∀ (W : World), A3 w W → Calls Tryz.prog 16 #[.slice RA N RC] W (I1 (fun x : Ax × List Rq => .slice x.1.1 N x.1.2) (fun x W' => RowO w.heap.size N x.1 x.2 W' ∧ x.2.map (·.2.2) = rs.map (·.2.2)) W) := fun W hg =>
  (A7e RA rs RC N hok.1.symm (by omega) (fun r hr => ⟨by have := (hok.2 r hr).1; omega, fun x hx => Nat.le_trans ((hok.2 r hr).2 x hx) (by omega)⟩) W (h.grow hg) (HT.grow hg)).mono fun e w' ⟨v, rs', he, e1, e2, e3, hg'⟩ => by
   obtain ⟨A2, c2, e9⟩ := A1z e3
   subst e9
   exact ⟨((A2, c2), rs'), he, ⟨RowO.mono ⟨e2, e3⟩ hg.size, e1⟩, hg'⟩
 have hnd : ∀ i, i < m → ∃ (bN oN : Nat) (x : NdT), NA = some ⟨bN, oN, none⟩ ∧ ns.take (i + 1) = ns.take i ++ [x] ∧ ∀ W, A3 w W → (W.cell? ⟨bN, oN + i * 4, none⟩ = some (.int .i64 x.r) ∧ W.cell? ⟨bN, oN + i * 4 + 1, none⟩ = some (.int .i64 x.c) ∧ W.cell? ⟨bN, oN + i * 4 + 2, none⟩ = some (.int .i64 x.l) ∧ W.cell? ⟨bN, oN + i * 4 + 3, none⟩ = some (.int .i64 x.t)) := fun i hi => by
  have hil : i < ns.length := by omega
  obtain ⟨bN, oN, e, h1⟩ := g.at hil
  exact ⟨bN, oN, ns[i], e, by rw [List.take_add_one, List.getElem?_eq_getElem hil]; rfl, fun W hg => ⟨h1 W hg 0 _ rfl, h1 W hg 1 _ rfl, h1 W hg 2 _ rfl, h1 W hg 3 _ rfl⟩⟩
 have htk : ns.take m = ns := List.take_of_length_le (by omega)
 have Hir := Lib.hid hir
 have Hnd := Lib.hid hnd
 have Htk := Lib.hid htk
 clear hir hnd h g HT hok hm htk
 go_enter Tryz.func31, Tryz.ntmps31
 refine en2 ?_
 intro u hG b2 b1 hB hF
 refine wp_seq (rsC C5 [0, 0, 1, 0, 2] hB hG fun K L hN hL => ?_)
 refine gs ?_
 refine gxd (X := (Ax × List Rq)) (fun x : Ax × List Rq => .slice x.1.1 N x.1.2) (fun x W' => RowO w.heap.size N x.1 x.2 W' ∧ x.2.map (·.2.2) = rs.map (·.2.2)) (fun x u u' hg h => ⟨h.1.grow hg, h.2⟩) (fun x8 => ?_) (C := by (rintro v ⟨hgu, hB, hG, -⟩; exact Hir.out _ hG))
 refine gs ?_
 refine gaa (A6G _ _ _ _ _) fun b3 hb3 hn3 => ?_
 replace hF := hF.n1 [] hB hG hb3 hn3
 refine geC hL ?_
 clear hB hG hL L
 rintro u ⟨⟨⟨hgu, hB, hG, -⟩, hx8⟩, h3⟩
 replace hB := hB.cons' h3
 clear h3
 obtain ⟨⟨R1, R1c⟩, rs'⟩ := x8
 obtain ⟨ht1, ht2⟩ := hx8
 simp only at ht1 ht2
 clear hb3 hn3
 clear hgu
 refine gtT ?_
 clear hN K
 refine sv hB hF hG 0 0 [_, _] ?_
 intro u hu hBG
 have ht3 := Lib.hid (RowO.put ht1 hB.head (by decide) (by decide) hu)
 have Ht2 := Lib.hid ht2
 clear ht1 ht2 hB hG hu
 have HR := ht3
 clear ht3
 obtain ⟨hB, hG⟩ := hBG
 refine wp_seq ?_
 refine r0T ?_
 refine wp_block ?_
 have hlb := And.intro hB.head.lt (And.intro hB.tail.head.lt hB.tail.tail.head.lt)
 clear hlb
 go_loopw [4] (fun s0 wr => ∃ (i : Nat) (A2 : Option Addr) (C2 : Nat), i ≤ m ∧ s0 = .int .i64 i ∧ RowO w.heap.size N (R1, R1c) rs' wr ∧ wr.ownsRow w.heap.size 88 4 (.slice A2 i C2) i ((ns.take i).flatMap ndL) ∧ Bx wr [(b3, 79, #[.slice R1 N R1c, .slice A2 i C2]), (b1, 72, #[.slice RA N RC, .slice NA m NC]), (b2, 79, #[.slice none 0 0, .slice none 0 0])] ∧ A3 w wr) (fun s0 _ => m - (intOf s0).toNat)
 case atStart => exact ⟨0, none, 0, Nat.zero_le _, rfl, HR.out, World.ownsRow_nil _ _ _ _, hB, hG⟩
 case round =>
  clear hB hG HR
  obtain ⟨i, A2, C2, hi, rfl, hR, ho, hB, hG⟩ := hrel
  obtain ⟨u, rfl⟩ : ∃ x, x = wr := ⟨_, rfl⟩
  have HR := Lib.hid hR
  have Ho := Lib.hid ho
  clear hR ho
  rcases Nat.lt_or_ge i m with hlt | hge
  ·have hdec : decide ((i : Int) < (m : Int)) = true := by simp; omega
   have him : (i : Int) < (m : Int) := by omega
   obtain ⟨bN, oN, x, rfl, hxs, hrd⟩ := Hnd.out i hlt
   obtain ⟨xr, xc, xl, xt⟩ := x
   have Hrd := Lib.hid hrd
   have Hxs := Lib.hid hxs
   clear hrd hxs
   refine wp_seq ?_
   refine r0T ?_
   refine wp_cond_true (rfl) ?_
   refine wp_skip ?_
   refine A4 ?_
   refine wp_seq ?_
   refine wp_block ?_
   refine wp_seq (rsC C5 [0, 0, 0, 0, 0, 2] hB hG fun K L hN hL => ?_)
   repeat first | refine gya ?_ | refine gyr ?_ | refine gna ?_ | refine gyb (by (rintro v ⟨hgu, hB, hG, -⟩ N hN; have r := hB.r; simp only [BxR] at r; obtain ⟨c0, c1, c2, c3⟩ := Hrd.out v hG; go_simp; exact hN)) ?_
   refine gaa (A07 _ _ _ _ _) fun b5 hb5 hn5 => ?_
   replace hF := hF.n1 [] hB hG hb5 hn5
   refine geC hL ?_
   clear hB hG hL L
   rintro u ⟨⟨hgu, hB, hG, -⟩, h5⟩
   replace hB := hB.cons' h5
   clear h5
   have HR2 := Lib.hid (HR.out.grow hgu)
   have Ho2 := Lib.hid (D4 Ho.out hgu)
   clear HR Ho
   have HR := HR2
   have Ho := Ho2
   clear HR2 Ho2
   clear hb5 hn5
   clear hgu
   refine gtT ?_
   clear hN K
   refine sv hB hF hG 0 0 [_, _, _, _] ?_
   intro u hu hBG
   have HR2 := Lib.hid (RowO.put HR.out hB.head (by decide) (by decide) hu)
   have Ho2 := Lib.hid (W5 Ho.out hB.head (by decide) hu)
   clear HR Ho hB hG hu
   have HR := HR2
   have Ho := Ho2
   clear HR2 Ho2
   obtain ⟨hB, hG⟩ := hBG
   refine N6 (w := w) C5 12 [0, 0, 0, 0, 0, 0, 0, 0, 0, 0, 0, 1] (by kernel_rfl) (by simp only [List.drop_succ_cons, List.drop_zero]; exact rfl) (fun _ => True) noG hB hG trivial ?_
   intro K L hN hL
   simp only [List.zip_cons_cons, List.zip_nil_left]
   repeat first | refine gya ?_ | refine gyr ?_ | refine gna ?_ | refine gyb (by (rintro v ⟨hgu, hB, hG, -⟩ N hN; have r := hB.r; simp only [BxR] at r; obtain ⟨c0, c1, c2, c3⟩ := Hrd.out v hG; go_simp; exact hN)) ?_
   refine gx Nat (fun b => .slice (some ⟨b, 0, none⟩) 1 1) (fun b W => Blk W b 88 (ndL ⟨xr, xc, xl, xt⟩).toArray) (fun b u u' hg h => h.grow hg) rfl ?_ (fun x33 => ?_)
   ·(rintro v ⟨hgu, hB, hG, -⟩ N hN; go_simp; exact hN v.heap.size _ (Blk.new v 88 (ndL ⟨xr, xc, xl, xt⟩).toArray) (A3.alloc _ _))
   refine okf (by simp only [Act.put, List.setIfInBounds_toArray, List.set_cons_succ, List.set_cons_zero]; exact rfl) ?_
   refine F7 ?_
   rintro v ⟨⟨hgu, hB1, hG1, -⟩, hx33⟩
   have HR2 := Lib.hid (HR.out.grow hgu)
   have Ho2 := Lib.hid (D4 Ho.out hgu)
   clear HR Ho
   have HR := HR2
   have Ho := Ho2
   clear HR2 Ho2
   clear hB hG
   have hB := hB1
   have hG := hG1
   clear hB1 hG1
   refine hL _ _ ?_
   clear hL L hgu
   obtain ⟨u, rfl⟩ : ∃ x, x = v := ⟨_, rfl⟩
   have r := hB.r
   simp only [BxR] at r
   refine A6q B05 w.heap.size (.slice A2 i C2) i ((ns.take i).flatMap ndL) x33 (ndL ⟨xr, xc, xl, xt⟩) rfl rfl hx33 rfl rfl Ho.out (by omega) (by omega) hG.sz fun v' w' g1 g2 g3 => ?_
   have HR2 := Lib.hid (RowO.own HR.out Ho.out (by decide) (by decide) g2)
   have hB2 := Bx.grown_ hB.tail g2 (fun e he hxe => by
    have q3 := X0 Ho.out hB.tail.head
    have q1 := X0 Ho.out hB.tail.tail.head
    have q2 := X0 Ho.out hB.tail.tail.tail.head
    simp only [List.mem_cons, List.not_mem_nil, or_false] at he
    rcases he with rfl | rfl | rfl
    ·exact q3 (by decide) hxe.symm
    ·exact q1 (by decide) hxe.symm
    ·exact q2 (by decide) hxe.symm)
   have hG2 : A3 w w' := hG.grown g2 (fun j e => (Ho.out.lt j e).1)
   clear HR Ho hB hG g2 g3 hx33
   obtain ⟨gA, gC, e9, -, -⟩ := Z4 g1 (by omega)
   subst e9
   have HR := HR2
   have hB := hB2
   have hG := hG2
   have Ho := Lib.hid g1
   clear HR2 hB2 hG2 g1
   replace hF : Fr w [b3, b1, b2] := ⟨fun b hb => hF.1 b (List.mem_cons_of_mem _ hb), (List.nodup_cons.1 hF.2).2⟩
   have r := hB.r
   simp only [BxR] at r
   simp only [Act.put, List.setIfInBounds_toArray, List.set_cons_succ, List.set_cons_zero]
   go_wp2_with fail
   clear r
   generalize hu0 : World.setCell w' ⟨b3, 1, none⟩ _ = u0
   have hBG := M3 hB hF hG 0 rfl 1 [_] hu0
   have HR2 := Lib.hid (RowO.put (i := 1) (vs := [_]) HR.out hB.head (by decide) (by decide) hu0)
   have Ho2 := Lib.hid (W5 (i := 1) (vs := [_]) Ho.out hB.head (by decide) hu0)
   clear HR Ho hB hG hu0
   obtain ⟨hB, hG⟩ := hBG
   have HR := HR2
   have Ho := Ho2
   clear HR2 Ho2 w'
   obtain ⟨u, rfl⟩ : ∃ x, x = u0 := ⟨_, rfl⟩
   clear r
   skip
   refine NoK.norm (hN _ _ ?_)
   clear hN K
   refine D2 ?_
   refine A4 ?_
   refine r0E ?_
   refine A4 ?_
   go_roundw
   case rel => exact ⟨i + 1, some ⟨gA, 0, none⟩, gC, by omega, by go_num, HR.out, by rw [Hxs.out, List.flatMap_append]; simpa using Ho.out, hB, hG⟩
   case measure => simp [intOf]; omega
  ·obtain rfl : m = i := by omega
   have hdec : decide ((m : Int) < (m : Int)) = false := by simp
   clear hge hi
   refine wp_seq ?_
   refine r0T ?_
   refine wp_cond_false (rfl) ?_
   refine wp_exit ?_
   refine B4 ?_
   refine B4 ?_
   refine E1 ?_
   refine A4 ?_
   refine r0T ?_
   refine sv hB hF hG 2 0 [_, _] ?_
   intro u hu hBG
   have HR2 := Lib.hid (RowO.put HR.out hB.tail.tail.head (by decide) (by decide) hu)
   have Ho2 := Lib.hid (W5 Ho.out hB.tail.tail.head (by decide) hu)
   clear HR Ho hB hG hu
   have HR := HR2
   have Ho := Ho2
   clear HR2 Ho2
   obtain ⟨hB, hG⟩ := hBG
   refine rt Tryz.results31 ?_
   have hn := A9t Ho.out
   rw [Htk.out] at hn
   exact ⟨(((R1, R1c), (A2, C2)), rs'), rfl, ⟨⟨HR.out.lrq, hn⟩, Ht2.out⟩, hG⟩
theorem B3N (A : Option Addr) (la : List Int) (ca : Nat) (n wd same way at0 by0 : Int) (hla : la.length ≤ 9223372036854775807) (hac : la.length ≤ ca) (hba : ∀ x ∈ la, -9223372036854775808 ≤ x ∧ x ≤ 9223372036854775807) (lo2 : -9223372036854775808 ≤ n) (hi2 : n ≤ 9223372036854775807) (lo3 : -9223372036854775808 ≤ wd) (hi3 : wd ≤ 9223372036854775807) (lo4 : -9223372036854775808 ≤ same) (hi4 : same ≤ 9223372036854775807) (lo5 : -9223372036854775808 ≤ way) (hi5 : way ≤ 9223372036854775807) (lo6 : -9223372036854775808 ≤ at0) (hi6 : at0 ≤ 9223372036854775807) (lo7 : -9223372036854775808 ≤ by0) (hi7 : by0 ≤ 9223372036854775807)
  (w : World) (h1 : Li w A la) (HT : Tab w) :
  Calls Tryz.prog 5 #[.slice A la.length ca, .int .i64 n, .int .i64 wd, .int .i64 same, .int .i64 way, .int .i64 at0, .int .i64 by0] w fun e w' => e = .returned (.bool true) ∧ A3 w w' := by
 clear lo2 hi2 lo3 hi3 lo4 hi4 lo5 hi5 lo6 hi6 lo7 hi7
 obtain ⟨pa, hpa⟩ : ∃ p, p = la.length := ⟨_, rfl⟩
 rw [← hpa] at hac ⊢
 have hBB : 100000 ≤ BIG := by unfold BIG; omega
 have hLIM : LIM = 1099511627760 := rfl
 have rN := S2 n (m := 12) (by omega)
 have rL := S2 wd (m := 3) (by omega)
 obtain ⟨N, hN⟩ : ∃ N : Nat, E5 n 12 = (N : Int) := ⟨(E5 n 12).toNat, by omega⟩
 obtain ⟨Lw, hLw⟩ : ∃ Lw : Nat, E5 wd 3 + 1 = (Lw : Int) := ⟨(E5 wd 3 + 1).toNat, by omega⟩
 have hN11 : N ≤ 11 := by omega
 have hL1 : 1 ≤ Lw := by omega
 have hL3 : Lw ≤ 3 := by omega
 have hr : ∀ W, A3 w W → Calls Tryz.prog 12 #[.slice A pa ca, .int .i64 n, .int .i64 wd, .int .i64 same] W (I1 (fun x : Ax × List Rq => .slice x.1.1 N x.1.2) (fun x W => A0M N Lw x.2 ∧ Lrz W x.1.1 x.2) W) := fun W hg => A9y A la ca pa N Lw n wd same hpa hac hN hLw (by omega) hba W (h1.grow hg)
 have Hr := Lib.hid hr
 clear hLw hr h1 hba hpa hla hac rN rL hN
 go_enter Tryz.func5, Tryz.ntmps5
 refine en0 ?_
 intro u hG hB hF
 refine wp_seq (rsE C5 [0, 0, 0, 0, 1, 0] hB hG fun L hL => ?_)
 refine gs ?_
 refine gxd (X := (Ax × List Rq)) (fun x : Ax × List Rq => .slice x.1.1 N x.1.2) (fun x W => A0M N Lw x.2 ∧ Lrz W x.1.1 x.2) (fun x u u' hg h => ⟨h.1, h.2.grow hg⟩) (fun x23 => ?_) (C := by (rintro v ⟨hgu, hB, hG, -⟩; exact Hr.out _ hG))
 refine gs ?_
 refine geT hL ?_
 clear hB hG hL L
 rintro u ⟨⟨hgu, hB, hG, -⟩, hx23⟩
 have HX := Lib.hid hx23
 clear hx23
 clear hgu
 have HG0 := Lib.hid hG
 clear hB hF hG
 obtain ⟨w0, rfl⟩ : ∃ x, x = w := ⟨_, rfl⟩
 obtain ⟨w, hwu⟩ : ∃ x, x = u := ⟨_, rfl⟩
 rw [← hwu] at HG0 HX
 have hB := Bx.nil u
 have hF := Fr.nil w
 have hG : A3 w u := hwu ▸ A3.refl u
 clear hwu
 obtain ⟨⟨RA, RC⟩, rs⟩ := x23
 obtain ⟨hok, hLx⟩ := HX.out
 simp only at hok hLx
 have HT' := HT.grow HG0.out
 have HRZ := Lib.hid hLx
 have Hok := Lib.hid hok
 clear HT HX Hr hLx hok
 have HT := HT'
 clear HT'
 refine wp_seq ?_
 rcases Nat.eq_zero_or_pos N with hN0 | hN0
 ·subst hN0
  have Hle := Lib.hid (fun W => B1w RA RC W)
  refine wp_seq (rsE C5 [0, 1, 0] hB hG fun L hL => ?_)
  refine gs ?_
  refine gmw (C := fun v => Hle.out _) ?_
  refine gs ?_
  refine geT hL ?_
  clear hB hG hL L
  rintro u ⟨-, hB, hG, -⟩
  refine wp_cond_true (rfl) ?_
  refine wp_seq (rsE C5 [1, 0] hB hG fun L hL => ?_)
  refine gmd (C := fun v ⟨hgu, hB, hG, _⟩ => A2v _ (HT.grow hG)) ?_
  refine gs ?_
  refine geT hL ?_
  clear hB hG hL L
  rintro u ⟨-, hB, hG, -⟩
  refine rt Tryz.results5 ?_
  exact ⟨rfl, HG0.out.trans hG⟩
 ·have hok := Hok.out
  obtain ⟨X, hXe⟩ : ∃ X, X = rs.map (·.2.2) := ⟨_, rfl⟩
  have hXl : X.length = N := by rw [hXe, List.length_map]; exact hok.1
  have hfl : (N0 (H9 X Lw (List.range N) 0) 0).length = N := by rw [A1Z, A1C, List.length_range]
  obtain ⟨ns, hns⟩ : ∃ l, l = N0 (H9 X Lw (List.range N) 0) 0 := ⟨_, rfl⟩
  rw [← hns] at hfl
  have hle := fun W (hg : A3 w W) => A5z RA rs N Lw RC hok.1 hN0 (by omega) hL1 (by omega) (fun r hr => (hok.2 r hr).1) W (HRZ.out.grow hg)
  have hrb : ∀ W, A3 w W → Calls Tryz.prog 28 #[.slice RA N RC] W (I1 (fun x : Ax => E6 (RA, RC) N x N) (fun x W => Le ndL 4 W x.1 ns) W) := fun W hg => by
   have h := B3e RA rs N Lw RC hok.1 hN0 (by omega) hL1 (by omega) (fun r hr => (hok.2 r hr).1) 50 (fun r hr => (hok.2 r hr).2) (by omega) W (HRZ.out.grow hg)
   rw [← hXe, ← hns] at h
   exact h.mono fun e w' ⟨x, h1, h2, h3⟩ => ⟨x, h1, A4m h2, h3⟩
  have hsp : ∀ W (N2 : Ax), Le ndL 4 W N2.1 ns → Calls Tryz.prog 27 #[E6 (RA, RC) N N2 N, .int .i64 way, .int .i64 at0, .int .i64 by0] W (I1 (fun x : (Ax × Nat) × List NdT => E6 (RA, RC) N x.1.1 x.1.2) (fun x W => (∃ B, P5 B x.1.1.1 x.2 W) ∧ x.2.length = x.1.2 ∧ x.1.2 ≤ N) W) := fun W N2 h =>
   (B0r RA N2.1 RC N2.2 N N ns hfl hN0 (by omega) way at0 by0 W h).mono fun e w' ⟨x, h1, h2, h3⟩ => ⟨x, h1, ⟨⟨_, h2.1⟩, h2.2⟩, h3⟩
  have Hle := Lib.hid hle
  have Hrb := Lib.hid hrb
  have Hsp := Lib.hid hsp
  have HXe := Lib.hid hXe
  have HXl := Lib.hid hXl
  clear hle hrb hsp hns hfl hXe hXl hok
  refine wp_seq (rsE C5 [0, 1, 0] hB hG fun L hL => ?_)
  refine gs ?_
  refine gmd (C := fun v ⟨hgu, hB, hG, _⟩ => Hle.out _ hG) ?_
  refine gs ?_
  refine geT hL ?_
  clear hB hG hL L
  rintro u ⟨-, hB, hG, -⟩
  refine wp_cond_false (rfl) ?_
  refine wp_skip ?_
  refine A4 ?_
  refine wp_seq (rsC C5 [0, 1, 0, 0, 0, 1, 2] hB hG fun K L hN hL => ?_)
  refine gs ?_
  refine gxd (X := Ax) (fun x : Ax => E6 (RA, RC) N x N) (fun x W => Le ndL 4 W x.1 ns) (fun x u u' hg h => Le.grow h hg) (fun x29 => ?_) (C := by (rintro v ⟨hgu, hB, hG, -⟩; exact Hrb.out _ hG))
  refine gs ?_
  refine gxd (X := ((Ax × Nat) × List NdT)) (fun x : (Ax × Nat) × List NdT => E6 (RA, RC) N x.1.1 x.1.2) (fun x W => (∃ B, P5 B x.1.1.1 x.2 W) ∧ x.2.length = x.1.2 ∧ x.1.2 ≤ N) (fun x u u' hg h => ⟨h.1.elim fun B hB => ⟨B, hB.grow hg⟩, h.2⟩) (fun x33 => ?_) (C := by (rintro v ⟨⟨hgu, hB, hG, -⟩, hx29⟩; exact Hsp.out _ x29 hx29))
  refine gaa (A2n _ _ _ _ _) fun b16 hb16 hn16 => ?_
  replace hF := hF.n1 [] hB hG hb16 hn16
  refine geC hL ?_
  clear hB hG hL L
  rintro u ⟨⟨⟨⟨hgu, hB, hG, -⟩, hx29⟩, hx33⟩, h16⟩
  replace hB := hB.cons' h16
  clear h16
  obtain ⟨⟨⟨M1, M1c⟩, m⟩, ns2⟩ := x33
  obtain ⟨⟨BB, ht1⟩, ht2, ht3⟩ := hx33
  simp only at ht1 ht2 ht3
  clear hb16 hn16
  clear hgu
  refine gtT ?_
  clear hN K
  refine sv hB hF hG 0 0 [_, _] ?_
  intro u hu hBG
  have ht4 := P5.put ht1 hB.head (by decide) hu
  clear ht1 hB hG hu hx29
  have Hn2 := Lib.hid ht4.le
  have Hm2 := Lib.hid (And.intro ht2 ht3)
  clear ht4 ht2 ht3
  obtain ⟨hB, hG⟩ := hBG
  have Hb16 := Lib.hid (fun W (hg : A3 u W) => And.intro ((hB.head.grow hg).cell 0) ((hB.head.grow hg).cell 1))
  have HG1 := Lib.hid (HG0.out.trans hG)
  have hRZ2 := HRZ.out.grow hG
  have HT' := HT.grow hG
  have hok := Hok.out
  obtain ⟨hm2, hmN⟩ := Hm2.out
  have hcn := fun W (hg : A3 u W) => B0z (RA, RC) (M1, M1c) rs N Lw m ns2 hok.1 hN0 (by omega) hL1 (by omega) (fun r hr => (hok.2 r hr).1) hm2 (by omega) 50 (fun r hr => (hok.2 r hr).2) (by omega) W (hRZ2.grow hg) (Hn2.out.grow hg)
  have hof := fun W (hg : A3 u W) => A7j RA M1 RC M1c N m Lw rs ns2 hok (by omega) (by omega) hm2 (by omega) W (hRZ2.grow hg) (Hn2.out.grow hg) (HT'.grow hg)
  have hck : ∀ W (R1 N1 : Ax) (rs' : List Rq), rs'.map (·.2.2) = rs.map (·.2.2) → Lrq W R1.1 rs' → Le ndL 4 W N1.1 ns2 → Calls Tryz.prog 32 #[E6 R1 N N1 m] W fun e w' => e = .returned (.int .i64 (G6 (rs.map (·.2.2)) Lw ns2 : Nat)) ∧ A3 W w' := fun W R1 N1 rs' he h1 h2 => by
   have hk := A4f hok (rs' := rs') he
   have h := A4h R1 N1 rs' N Lw m ns2 hk.1 hN0 (by omega) hL1 (by omega) (fun r hr => (hk.2 r hr).1) hm2 (by omega) 50 (fun r hr => (hk.2 r hr).2) (by omega) W h1 h2
   rw [he] at h
   exact h
  have hdp : ∀ W (R1 N1 : Ax) (rs' : List Rq), rs'.map (·.2.2) = rs.map (·.2.2) → Lrq W R1.1 rs' → Le ndL 4 W N1.1 ns2 → Calls Tryz.prog 30 #[E6 R1 N N1 m] W fun e w' => e = .returned (.int .i64 (if G6 (rs.map (·.2.2)) Lw ns2 = 0 then J3 (B8 ns2 0) else 0 : Nat)) ∧ A3 W w' := fun W R1 N1 rs' he h1 h2 => by
   have hk := A4f hok (rs' := rs') he
   have h := B1N R1 N1 rs' N Lw m ns2 hk.1 hN0 (by omega) hL1 (by omega) (fun r hr => (hk.2 r hr).1) hm2 (by omega) 50 (fun r hr => (hk.2 r hr).2) (by omega) W h1 h2
   rw [he] at h
   exact h
  have hdo : G6 (rs.map (·.2.2)) Lw ns2 = 0 → ∀ W, A3 u W → Calls Tryz.prog 33 #[E6 (RA, RC) N (M1, M1c) m] W fun e w' => e = .returned (.int .i64 (J3 (B8 ns2 0) : Nat)) ∧ A3 W w' := fun h0 W hg => by
   obtain ⟨g1, ⟨d, g2⟩, -, -⟩ := B1L h0
   have hd : J3 (B8 ns2 0) = d := by rw [g2]; rfl
   rw [hd]
   rw [hm2] at g2
   exact B2Q (RA, RC) (M1, M1c) N m ns2 hm2 (by omega) d g2 W (Hn2.out.grow hg)
  obtain ⟨C, hC⟩ : ∃ C, C = G6 (rs.map (·.2.2)) Lw ns2 := ⟨_, rfl⟩
  obtain ⟨D, hD⟩ : ∃ D, D = J3 (B8 ns2 0) := ⟨_, rfl⟩
  simp only [← hC] at hcn hck
  simp only [← hC, ← hD] at hdp hdo
  have Hcn := Lib.hid hcn
  have Hof := Lib.hid hof
  have Hck := Lib.hid hck
  have Hdp := Lib.hid hdp
  have Hdo := Lib.hid hdo
  clear hB hF hG hRZ2 HT hok hm2 hmN hcn hof hck hdp hdo hC hD HG0 Hn2 Hm2 HRZ Hok Hrb Hsp Hle HXe HXl
  obtain ⟨w0, rfl⟩ : ∃ x, x = w := ⟨_, rfl⟩
  obtain ⟨w, hwu⟩ : ∃ x, x = u := ⟨_, rfl⟩
  rw [← hwu] at HG1 Hb16 HT' Hcn Hof Hdo
  have hB := Bx.nil u
  have hF := Fr.nil w
  have hG : A3 w u := hwu ▸ A3.refl u
  have HT := HT'
  clear hwu HT'
  by_cases hC0 : C = 0
  ·subst hC0
   have Hcn2 := Lib.hid (fun W hg => (Hcn.out W hg : Calls Tryz.prog 29 #[E6 (RA, RC) N (M1, M1c) m] W fun e w' => e = .returned (.int .i64 0) ∧ A3 W w'))
   have Hck2 := Lib.hid (fun W R1 N1 rs' he h1 h2 => (Hck.out W R1 N1 rs' he h1 h2 : Calls Tryz.prog 32 #[E6 R1 N N1 m] W fun e w' => e = .returned (.int .i64 0) ∧ A3 W w'))
   have hdp := fun W R1 N1 rs' he h1 h2 => Hdp.out W R1 N1 rs' he h1 h2
   simp only [if_true] at hdp
   have Hdp2 := Lib.hid hdp
   have Hdo2 := Lib.hid (Hdo.out rfl)
   have fDD : ((D : Int) == (D : Int)) = true := by simp
   clear hdp Hcn Hck Hdp Hdo
   refine wp_seq (rsE C5 [0, 1, 0] hB hG fun L hL => ?_)
   repeat first | refine gya ?_ | refine gyr ?_ | refine gna ?_ | refine gyb (by (rintro v ⟨hgu, hB, hG, -⟩ N hN; have r := hB.r; simp only [BxR] at r; obtain ⟨q0, q1⟩ := Hb16.out v hG; go_simp; exact hN)) ?_
   refine gmd (C := fun v ⟨hgu, hB, hG, _⟩ => Hcn2.out _ hG) ?_
   refine gs ?_
   refine geT hL ?_
   clear hB hG hL L
   rintro u ⟨-, hB, hG, -⟩
   refine wp_seq (rsE C5 [0, 1, 1, 0] hB hG fun L hL => ?_)
   repeat first | refine gya ?_ | refine gyr ?_ | refine gna ?_ | refine gyb (by (rintro v ⟨hgu, hB, hG, -⟩ N hN; have r := hB.r; simp only [BxR] at r; obtain ⟨q0, q1⟩ := Hb16.out v hG; go_simp; exact hN)) ?_
   refine gxd (X := ((Ax × Ax) × List Rq)) (fun x : (Ax × Ax) × List Rq => E6 x.1.1 N x.1.2 m) (fun x W => (Lrq W x.1.1.1 x.2 ∧ Le ndL 4 W x.1.2.1 ns2) ∧ x.2.map (·.2.2) = rs.map (·.2.2)) (fun x u u' hg h => ⟨⟨h.1.1.grow hg, h.1.2.grow hg⟩, h.2⟩) (fun x37 => ?_) (C := by (rintro v ⟨hgu, hB, hG, -⟩; exact Hof.out _ hG))
   refine gmd (C := fun v ⟨⟨hgu, hB, hG, _⟩, hx37⟩ => Hdp2.out _ x37.1.1 x37.1.2 x37.2 hx37.2 hx37.1.1 hx37.1.2) ?_
   refine gs ?_
   refine geT hL ?_
   clear hB hG hL L
   rintro u ⟨⟨-, hB, hG, -⟩, hx37⟩
   refine wp_seq (rsE C5 [1, 0, 0, 1, 1, 0, 0, 0, 0, 0, 0, 0, 0, 0, 0, 0, 0, 0, 0, 0, 0, 1, 0, 0, 0, 0, 0] hB hG fun L hL => ?_)
   refine gmd (C := fun v ⟨hgu, hB, hG, _⟩ => A2v _ (HT.grow hG)) ?_
   repeat first | refine gya ?_ | refine gyr ?_ | refine gna ?_ | refine gyb (by (rintro v ⟨hgu, hB, hG, -⟩ N hN; have r := hB.r; simp only [BxR] at r; obtain ⟨q0, q1⟩ := Hb16.out v hG; go_simp; exact hN)) ?_
   refine gxd (X := ((Ax × Ax) × List Rq)) (fun x : (Ax × Ax) × List Rq => E6 x.1.1 N x.1.2 m) (fun x W => (Lrq W x.1.1.1 x.2 ∧ Le ndL 4 W x.1.2.1 ns2) ∧ x.2.map (·.2.2) = rs.map (·.2.2)) (fun x u u' hg h => ⟨⟨h.1.1.grow hg, h.1.2.grow hg⟩, h.2⟩) (fun x42 => ?_) (C := by (rintro v ⟨hgu, hB, hG, -⟩; exact Hof.out _ hG))
   first | refine gmd (C := fun v ⟨⟨hgu, hB, hG, _⟩, hx42⟩ => Hck2.out _ x42.1.1 x42.1.2 x42.2 hx42.2 hx42.1.1 hx42.1.2) ?_ | refine F2 ?_
   repeat first | refine gya ?_ | refine gyr ?_ | refine gna ?_ | refine gyb (by (rintro v ⟨⟨hgu, hB, hG, -⟩, hx42⟩ N hN; have r := hB.r; simp only [BxR] at r; obtain ⟨q0, q1⟩ := Hb16.out v hG; go_simp; exact hN)) ?_
   first | refine gmd (C := fun v ⟨⟨hgu, hB, hG, _⟩, hx42⟩ => Hdo2.out _ hG) ?_ | refine F2 ?_
   refine gs ?_
   refine geT hL ?_
   clear hB hG hL L
   rintro u ⟨⟨-, hB, hG, -⟩, hx42⟩
   refine rt Tryz.results5 ?_
   exact ⟨rfl, HG1.out.trans hG⟩
  ·have Hcn2 := Hcn
   have Hck2 := Hck
   have hdp := fun W R1 N1 rs' he h1 h2 => Hdp.out W R1 N1 rs' he h1 h2
   simp only [if_neg hC0] at hdp
   have Hdp2 := Lib.hid (fun W R1 N1 rs' he h1 h2 => (hdp W R1 N1 rs' he h1 h2 : Calls Tryz.prog 30 #[E6 R1 N N1 m] W fun e w' => e = .returned (.int .i64 0) ∧ A3 W w'))
   have f0 : ((C : Int) != 0) = true := by simp; omega
   have fCC : ((C : Int) == (C : Int)) = true := by simp
   clear hdp Hcn Hck Hdp Hdo hC0
   refine wp_seq (rsE C5 [0, 1, 0] hB hG fun L hL => ?_)
   repeat first | refine gya ?_ | refine gyr ?_ | refine gna ?_ | refine gyb (by (rintro v ⟨hgu, hB, hG, -⟩ N hN; have r := hB.r; simp only [BxR] at r; obtain ⟨q0, q1⟩ := Hb16.out v hG; go_simp; exact hN)) ?_
   refine gmd (C := fun v ⟨hgu, hB, hG, _⟩ => Hcn2.out _ hG) ?_
   refine gs ?_
   refine geT hL ?_
   clear hB hG hL L
   rintro u ⟨-, hB, hG, -⟩
   refine wp_seq (rsE C5 [0, 1, 1, 0] hB hG fun L hL => ?_)
   repeat first | refine gya ?_ | refine gyr ?_ | refine gna ?_ | refine gyb (by (rintro v ⟨hgu, hB, hG, -⟩ N hN; have r := hB.r; simp only [BxR] at r; obtain ⟨q0, q1⟩ := Hb16.out v hG; go_simp; exact hN)) ?_
   refine gxd (X := ((Ax × Ax) × List Rq)) (fun x : (Ax × Ax) × List Rq => E6 x.1.1 N x.1.2 m) (fun x W => (Lrq W x.1.1.1 x.2 ∧ Le ndL 4 W x.1.2.1 ns2) ∧ x.2.map (·.2.2) = rs.map (·.2.2)) (fun x u u' hg h => ⟨⟨h.1.1.grow hg, h.1.2.grow hg⟩, h.2⟩) (fun x37 => ?_) (C := by (rintro v ⟨hgu, hB, hG, -⟩; exact Hof.out _ hG))
   refine gmd (C := fun v ⟨⟨hgu, hB, hG, _⟩, hx37⟩ => Hdp2.out _ x37.1.1 x37.1.2 x37.2 hx37.2 hx37.1.1 hx37.1.2) ?_
   refine gs ?_
   refine geT hL ?_
   clear hB hG hL L
   rintro u ⟨⟨-, hB, hG, -⟩, hx37⟩
   refine wp_seq (rsE C5 [1, 0, 0, 1, 1, 0, 0, 0, 0, 0, 0, 0, 0, 0, 0, 0, 0, 0, 0, 0, 0, 1, 0, 0, 0, 0, 0] hB hG fun L hL => ?_)
   refine gmd (C := fun v ⟨hgu, hB, hG, _⟩ => A2v _ (HT.grow hG)) ?_
   repeat first | refine gya ?_ | refine gyr ?_ | refine gna ?_ | refine gyb (by (rintro v ⟨hgu, hB, hG, -⟩ N hN; have r := hB.r; simp only [BxR] at r; obtain ⟨q0, q1⟩ := Hb16.out v hG; go_simp; exact hN)) ?_
   refine gxd (X := ((Ax × Ax) × List Rq)) (fun x : (Ax × Ax) × List Rq => E6 x.1.1 N x.1.2 m) (fun x W => (Lrq W x.1.1.1 x.2 ∧ Le ndL 4 W x.1.2.1 ns2) ∧ x.2.map (·.2.2) = rs.map (·.2.2)) (fun x u u' hg h => ⟨⟨h.1.1.grow hg, h.1.2.grow hg⟩, h.2⟩) (fun x42 => ?_) (C := by (rintro v ⟨hgu, hB, hG, -⟩; exact Hof.out _ hG))
   first | refine gmd (C := fun v ⟨⟨hgu, hB, hG, _⟩, hx42⟩ => Hck2.out _ x42.1.1 x42.1.2 x42.2 hx42.2 hx42.1.1 hx42.1.2) ?_ | refine F2 ?_
   repeat first | refine gya ?_ | refine gyr ?_ | refine gna ?_ | refine gyb (by (rintro v ⟨⟨hgu, hB, hG, -⟩, hx42⟩ N hN; have r := hB.r; simp only [BxR] at r; obtain ⟨q0, q1⟩ := Hb16.out v hG; go_simp; exact hN)) ?_
   refine gmn (by exact rfl) ?_
   refine okf (by simp only [Act.put, List.setIfInBounds_toArray, List.set_cons_succ, List.set_cons_zero]; exact rfl) ?_
   refine gs ?_
   refine geT hL ?_
   clear hB hG hL L
   rintro u ⟨⟨-, hB, hG, -⟩, hx42⟩
   refine rt Tryz.results5 ?_
   exact ⟨rfl, HG1.out.trans hG⟩
end Go.Proofs.YtjmopgepnndckaaGreatDoor
