/- Contracts and laws. -/
import Derived.Test.YtlkniebmjdoopaaGreatDoorK11
import Derived.Test.YtlkniebmjdoopaaGreatDoorK13
import Derived.Laws.CopyOwn
set_option linter.unusedSimpArgs false
set_option linter.unusedVariables false
set_option maxHeartbeats 4000000
set_option maxRecDepth 100000
namespace Go.Proofs.YtlkniebmjdoopaaGreatDoor
open Go.RowKit
theorem B0j : (Tryz.prog.info? 33).map (·.size) = some 1:=by kernel_rfl
theorem B2i {w : World} {b : Nat} {l : List Nat} (h : C4 w b l) : ∀ j v,(l.map fun x=>Value.int .u64 (x : Nat))[j]? = some v → w.cell? (Addr.add ⟨b,0,none⟩ j) = some v:=fun j v hj=>by
 rw [Go.WideShapes.add_plain,Nat.zero_add,h.cell]
 rw [List.getElem?_map] at hj
 exact hj
theorem B4T {w w1 w2 : World} {m : Nat} {vs us : List Nat} (hg1 : A3 w w1) (hv : C4 w1 w.heap.size vs) (hg2 : A3 (w1.alloc (.cells (C0 (List.replicate (m + 1) 0)) 33)) w2) (hu : C4 w2 (w1.alloc (.cells (C0 (List.replicate (m + 1) 0)) 33)).heap.size us) (hul : us.length = m + 1) :
  ∃ w3,(Builtin.copy_ #[164,164] 3 #[.slice (some ⟨w1.heap.size,0,none⟩) (m + 1) (m + 1),.slice (some ⟨w1.heap.size + 1,0,none⟩) (m + 1) (m + 1)]).run Tryz.prog w2 = .ok (goInt (m + 1)) w3 ∧ C4 w3 w1.heap.size us ∧ C4 w3 w.heap.size vs ∧ A3 w w3 ∧ w1.heap.size < w3.heap.size ∧ w.heap.size < w1.heap.size:=by
 rw [H8] at hu
 have hz : C4 w2 w1.heap.size (List.replicate (m + 1) 0):=Blk.grow hg2 (Blk.new w1 33 _)
 have hlen : (us.map fun x=>Value.int .u64 (x : Nat)).length = m + 1:=by simp [hul]
 have hsz : (C0 (List.replicate (m + 1) 0)).size = m + 1:=by unfold C0;simp
 have hlv : w.heap.size < w1.heap.size:=hv.lt
 have hs2:=hg2.size
 rw [H8] at hs2
 have hr:=run_copy_row (P:=Tryz.prog) w2 164 164 3 33 w1.heap.size 0 (m + 1) (m + 1) ⟨w1.heap.size + 1,0,none⟩ (m + 1) (m + 1) (C0 (List.replicate (m + 1) 0)) 33 (us.map fun x=>Value.int .u64 (x : Nat)) Tryz.underlying164 B0j hz (by rw [hlen];exact (Nat.min_self _).symm) (B2i hu) (by rw [hlen,hsz];omega) (fun v hv=>by
  obtain ⟨x,_,rfl⟩:=List.mem_map.1 hv
  rfl)
 rw [hlen] at hr
 have he : ((C0 (List.replicate (m + 1) 0)).toList.take 0 ++ (us.map fun x=>Value.int .u64 (x : Nat)) ++ (C0 (List.replicate (m + 1) 0)).toList.drop (0 + (m + 1))).toArray = C0 us:=by
  rw [List.take_zero,List.nil_append,List.drop_of_length_le (by rw [Array.length_toList,hsz];omega),List.append_nil]
  rfl
 rw [he] at hr
 have hgw : A3 w w2:=hg1.trans ((A3.alloc _ _).trans hg2)
 refine ⟨_,hr,setRow_heap w2 _ _ _ _ _ hz,?_,below_setRow hgw (Nat.le_of_lt hlv) _,?_,hlv⟩
 ·exact (setRow_other w2 _ _ _ (by omega)).trans (Blk.grow ((A3.alloc _ _).trans hg2) hv)
 ·show w1.heap.size < (w2.setRow _ _).heap.size
  simp only [World.setRow,Array.size_modify]
  omega
theorem A3m {w u : World} {b9 b8 b4 : Nat} {zs vs qs : List Nat} (hB : Bx u [(b9,33,C0 zs),(b8,33,C0 vs),(b4,33,C0 qs)]) (hF : Fr w [b9,b8,b4]) (hG : A3 w u) (i y : Nat) :
  Bx (u.setCell ⟨b9,i,none⟩ (.int .u64 (y : Nat))) [(b9,33,C0 (zs.set i y)),(b8,33,C0 vs),(b4,33,C0 qs)] ∧ A3 w (u.setCell ⟨b9,i,none⟩ (.int .u64 (y : Nat))):=by
 have hBG:=hB.over hF hG 0 rfl i [.int .u64 (y : Nat)] rfl
 simp only [List.modify_zero_cons,G6,A1v] at hBG
 exact hBG
theorem A6i {w u : World} {b9 b8 b4 : Nat} {zs vs qs : List Nat} (hB : Bx u [(b9,33,C0 zs),(b8,33,C0 vs),(b4,33,C0 qs)]) (hF : Fr w [b9,b8,b4]) (hG : A3 w u) (i y : Nat) :
  Bx (u.setCell ⟨b4,i,none⟩ (.int .u64 (y : Nat))) [(b9,33,C0 zs),(b8,33,C0 vs),(b4,33,C0 (qs.set i y))] ∧ A3 w (u.setCell ⟨b4,i,none⟩ (.int .u64 (y : Nat))):=by
 have hBG:=hB.over hF hG 2 rfl i [.int .u64 (y : Nat)] rfl
 simp only [List.modify_succ_cons,List.modify_zero_cons,G6,A1v] at hBG
 exact hBG
theorem A1a {u : World} {l : List (Nat × TypeId × Array Value)} {b : Nat} {zs : List Nat} (hB : Bx u l) (h : (b,33,C0 zs) ∈ l) {i : Nat} (hi : i < zs.length) : u.cell? ⟨b,i,none⟩ = some (.int .u64 (dg zs i : Nat)) ∧ u.frozen? ⟨b,i,none⟩ = false:=by
 have hb : Blk u b 33 (C0 zs):=hB _ h
 refine ⟨?_,hb.frozen i⟩
 rw [hb.cell,T6,List.getElem?_eq_getElem hi,D3 hi]
 rfl
theorem B4u (g x : Nat) (hg : g < 18446744073709551616) (hx : x < 18446744073709551616) (W : World) : Calls Tryz.prog 123 #[.int .u64 (g : Int),.int .u64 (x : Int)] W fun e w'=>e = .returned (.tuple #[.int .u64 ((g * x / W64 : Nat) : Int),.int .u64 ((g * x % W64 : Nat) : Int)]) ∧ W = w':=by
 refine (Tryz.bits_Mul64 g x hg hx W).mono fun e w' ⟨he,hw⟩=>⟨?_,hw.symm⟩
 rw [he];rfl
theorem B43 (A1 A2 : Option Addr) (lx ly : List Nat) (c1 c2 : Nat) (hdx : Dig W64 lx) (hdy : Dig W64 ly) (hn2 : 2 ≤ ly.length) (hle : ly.length ≤ lx.length) (htop : dg ly (ly.length - 1) ≠ 0) (hm : lx.length ≤ 34359738360) (w : World) (hx : Rd w A1 lx) (hy : Rd w A2 ly) :
  Calls Tryz.prog 157 #[.slice A1 lx.length c1,.slice A2 ly.length c2] w fun e w'=>∃ (bq br : Nat) (qs rs : List Nat),e = .returned (.tuple #[.slice (some ⟨bq,0,none⟩) qs.length qs.length,.slice (some ⟨br,0,none⟩) rs.length rs.length]) ∧
   C4 w' bq qs ∧ C4 w' br rs ∧ Dig W64 qs ∧ Dig W64 rs ∧ qs.length ≤ lx.length ∧ rs.length ≤ lx.length ∧ val W64 qs = val W64 lx / val W64 ly ∧ val W64 rs = val W64 lx % val W64 ly ∧ A3 w w':=by
 obtain ⟨n,hn⟩ : ∃ n,n = ly.length:=⟨_,rfl⟩
 obtain ⟨m,hmx⟩ : ∃ m,m = lx.length:=⟨_,rfl⟩
 have hdt:=B9 B6 hdy (ly.length - 1)
 rw [← hn] at hn2 hle htop hdt
 rw [← hmx] at hle hm
 rw [← hn,← hmx]
 obtain ⟨n1,hn1⟩ : ∃ n1,n1 = n - 1:=⟨_,rfl⟩
 rw [← hn1] at htop hdt
 have hn1l : n1 < ly.length:=by omega
 obtain ⟨b2,o2,rfl,hw2⟩:=hy (by rintro rfl;simp at hn;omega)
 have hc:=hw2.cell hn1l
 rw [← D3 hn1l] at hc
 obtain ⟨top,htp⟩ : ∃ t,t = dg ly n1:=⟨_,rfl⟩
 rw [← htp] at htop hdt hc
 obtain ⟨s,hs⟩ : ∃ s,s = 64 - bl top:=⟨_,rfl⟩
 have hs64 : s < 64:=by have := P6.2 htop;omega
 have hlz : ∀ W,Calls Tryz.prog 191 #[.int .u64 top] W fun e w'=>e = .returned (.int .i64 s) ∧ w' = W:=fun W=>by
  have := bits_LeadingZeros64 top hdt W
  rw [← hs] at this
  exact this
 have hup1 : ∀ W,A3 w W → Calls Tryz.prog 192 #[.slice (some ⟨b2,o2,none⟩) n c2,.int .i64 s] W fun e w'=>∃ zs : List Nat,e = .returned (.slice (some ⟨W.heap.size,0,none⟩) (n + 1) (n + 1)) ∧ (C4 w' W.heap.size zs ∧ zs.length = n + 1 ∧ Dig W64 zs ∧ val W64 zs = val W64 ly * 2 ^ s) ∧ A3 W w':=fun W hg=>by
  rw [hn]
  refine (A6G _ ly c2 s hdy (by omega) (by omega) W (hy.grow hg)).mono fun e w' ⟨zs,he,h1,h2,h3,h4,h5⟩=>⟨zs,?_,⟨h1,by rw [h2];omega,h3,h4⟩,h5⟩
  rw [he,h2,show ly.length + s / 64 + 1 = ly.length + 1 by omega]
 have hup2 : ∀ W,A3 w W → Calls Tryz.prog 192 #[.slice A1 m c1,.int .i64 s] W fun e w'=>∃ zs : List Nat,e = .returned (.slice (some ⟨W.heap.size,0,none⟩) (m + 1) (m + 1)) ∧ (C4 w' W.heap.size zs ∧ zs.length = m + 1 ∧ Dig W64 zs ∧ val W64 zs = val W64 lx * 2 ^ s) ∧ A3 W w':=fun W hg=>by
  rw [hmx]
  refine (A6G _ lx c1 s hdx (by omega) (by omega) W (hx.grow hg)).mono fun e w' ⟨zs,he,h1,h2,h3,h4,h5⟩=>⟨zs,?_,⟨h1,by rw [h2];omega,h3,h4⟩,h5⟩
  rw [he,h2,show lx.length + s / 64 + 1 = lx.length + 1 by omega]
 obtain ⟨k0,hk0⟩ : ∃ k,k = m - n + 1:=⟨_,rfl⟩
 have hmk1:=A0f (m + 1) (by omega) ((m : Int) + 1) (by omega)
 have hmk2:=A0f k0 (by omega) ((m : Int) - (n : Int) + 1) (by omega)
 have f1 : IntKind.i64.wrap ((n : Int) - 1) = (n1 : Nat):=by rw [show ((n : Int) - 1) = (n1 : Nat) by omega];exact IntWalk.i64_in _ (by omega)
 have hn1n : n1 < n:=by omega
 have Hlz:=Lib.hid hlz
 have Hup1:=Lib.hid hup1
 have Hup2:=Lib.hid hup2
 have Hs:=Lib.hid hs
 have Htp:=Lib.hid htp
 have Hn:=Lib.hid hn
 have Hmx:=Lib.hid hmx
 have Hdy:=Lib.hid hdy
 have Hdx:=Lib.hid hdx
 have Hk0:=Lib.hid hk0
 have Hn1:=Lib.hid hn1
 have Htop:=Lib.hid htop
 have Hdt:=Lib.hid hdt
 clear hlz hup1 hup2 hs htp hn hmx hdy hdx hx hy hw2 hk0 hn1 hdt hn1l
 go_enter Tryz.func157,Tryz.ntmps157
 go_wp2_with (first
  | (go_at_call 191;((with_reducible refine (Hlz.out _).mono ?_);rintro e wz ⟨rfl,hwz⟩;have hwz:=hwz.symm;subst hwz))
  | (go_at_call 192;first
    | ((with_reducible refine (Hup1.out _ (A3.refl _)).mono ?_);rintro e w1 ⟨vs,rfl,hv,hg1⟩;have Hv:=Lib.hid hv;have HG1:=Lib.hid hg1;clear hv hg1)
    | ((with_reducible refine (Hup2.out _ (HG1.out.trans (A3.alloc _ _))).mono ?_);rintro e w2 ⟨us,rfl,hu,hg2⟩;obtain ⟨w3,hcopy,h3u,h3v,hG3,hz1,hz2⟩:=B4T HG1.out Hv.out.1 hg2 hu.1 hu.2.1;have Hu:=Lib.hid hu.2;have H3u:=Lib.hid h3u;have H3v:=Lib.hid h3v;have HG3:=Lib.hid hG3;clear hu hg2 h3u h3v hG3)))
 clear hmk1 hmk2 hcopy hc htop
 obtain ⟨X,hX⟩ : ∃ X,X = val W64 us:=⟨_,rfl⟩
 obtain ⟨hvr,hvl,hvd,hvv⟩:=Hv.out
 obtain ⟨hul,hud,huv⟩:=Hu.out
 obtain ⟨z1,z2,z3,z4⟩:=B0i (n1:=n1) Hdy.out (by rw [← Hn.out];have := Hn1.out;omega) Htp.out Htop.out Hs.out Hdt.out hvd hvv
 have hst:=B1H (k0:=k0) (n1:=n1) Hdx.out Hmx.out.symm hud huv z2 (by have := Hn1.out;have := Hk0.out;omega)
 rw [← hX] at hst
 have hXe : X = val W64 lx * 2 ^ s:=by rw [hX];exact huv
 have hB3 : Bx (w3.alloc (.cells (C0 (List.replicate k0 0)) 33)) [(w1.heap.size,33,C0 us),(w.heap.size,33,C0 vs),(w3.heap.size,33,C0 (List.replicate k0 0))] :=
  Bx.cons (Blk.grow (A3.alloc _ _) H3u.out) (Bx.cons (Blk.grow (A3.alloc _ _) H3v.out) (Bx.cons (Blk.new w3 33 _) (Bx.nil _)))
 have hF : Fr w [w1.heap.size,w.heap.size,w3.heap.size]:=⟨fun b hb=>by
  simp only [List.mem_cons,List.not_mem_nil,or_false] at hb
  rcases hb with rfl | rfl | rfl <;> omega,by
  simp only [List.nodup_cons,List.mem_cons,List.not_mem_nil,or_false,not_or,not_false_eq_true,List.nodup_nil,and_true]
  omega⟩
 have hG3:=HG3.out.trans (A3.alloc w3 (.cells (C0 (List.replicate k0 0)) 33))
 have Hst:=Lib.hid (And.intro hst (And.intro hul (And.intro (List.length_replicate (n:=k0) (a:=0)) (And.intro hB3 hG3))))
 have HXe:=Lib.hid hXe
 have HV:=Lib.hid (And.intro hvl (And.intro hvd (And.intro z1 (And.intro z3 (And.intro z4 hvv)))))
 clear hX hvr hvl hvd hvv hul hud huv z1 z2 z3 z4 hst hXe hB3 hG3 Hv Hu H3u H3v HG3 HG1 Hup1 Hup2 Hlz
 obtain ⟨k1,hk1⟩ : ∃ k1,k1 = k0 - 1:=⟨_,rfl⟩
 have hk1e : (m : Int) - (n : Int) = ((k0 : Nat) : Int) - 1:=by have := Hk0.out;omega
 rw [hk1e,Int.sub_add_cancel]
 generalize w1.heap.size = b9 at Hst hF hz1 hz2 ⊢
 generalize hb8 : w.heap.size = b8 at Hst hF hz2 ⊢
 generalize w3.alloc _ = wq at Hst ⊢
 generalize w3.heap.size = b4 at Hst hF hz1 ⊢
 rw [← hb8] at hz2
 go_loopw [10] (fun i wr=>∃ (k : Nat) (us qs : List Nat),k ≤ k0 ∧ i = .int .i64 ((k : Int) - 1) ∧ DvI W64 (val W64 vs) X k us qs ∧ us.length = m + 1 ∧ qs.length = k0 ∧ Bx wr [(b9,33,C0 us),(b8,33,C0 vs),(b4,33,C0 qs)] ∧ A3 w wr) (fun i _=>(intOf i + 1).toNat)
 case atStart=>exact ⟨k0,us,_,Nat.le_refl _,rfl,Hst.out⟩
 case round =>
  clear Hst us
  obtain ⟨k,us,qs,hk,rfl,hI,hul,hql,hB,hG⟩:=hrel
  obtain ⟨u,rfl⟩ : ∃ x,x = wr:=⟨_,rfl⟩
  have HI:=Lib.hid hI
  have Hul:=Lib.hid hul
  have Hql:=Lib.hid hql
  clear hI hul hql
  rcases Nat.eq_zero_or_pos k with rfl | hpos
  ·have hV0 : 0 < val W64 vs:=by rw [HV.out.2.2.2.2.2];exact Nat.mul_pos HV.out.2.2.2.2.1 (Nat.two_pow_pos _)
   obtain ⟨dn1,dn2⟩:=HI.out.done hV0
   have hvW : val W64 vs < W64 ^ n:=by have := HV.out.2.2.1;rw [show n1 + 1 = n by have := Hn1.out;omega] at this;exact this
   have hult : val W64 us < W64 ^ n:=by rw [dn2];exact Nat.lt_trans (Nat.mod_lt _ hV0) hvW
   have htk:=A4y HI.out.1 hult
   have htl : (us.take n).length = n:=by rw [List.length_take,Hul.out];omega
   have hp2 : 0 < 2 ^ s:=Nat.two_pow_pos _
   rw [HXe.out,HV.out.2.2.2.2.2] at dn1 dn2
   rw [Nat.mul_div_mul_right _ _ hp2] at dn1
   rw [Nat.mul_mod_mul_right] at dn2
   have hbu : C4 u b9 us:=hB.head
   have hsd : ∀ W,A3 u W → Calls Tryz.prog 194 #[.slice (some ⟨b9,0,none⟩) n (m + 1),.int .i64 s] W fun e w'=>∃ rs : List Nat,e = .returned (.slice (some ⟨W.heap.size,0,none⟩) n n) ∧ (C4 w' W.heap.size rs ∧ rs.length = n ∧ Dig W64 rs ∧ val W64 rs = val W64 lx % val W64 ly) ∧ A3 W w':=fun W hg=>by
    have hrd : Rd W (some ⟨b9,0,none⟩) (us.take n):=fun _=>⟨b9,0,rfl,((hbu.grow hg).wds).take n⟩
    have := B03 (some ⟨b9,0,none⟩) (us.take n) (m + 1) s (fun x hx=>HI.out.1 x (List.mem_of_mem_take hx)) (by rw [htl];omega) (by rw [htl];omega) W hrd
    rw [htl] at this
    refine this.mono fun e w' ⟨rs,he,h1,h2,h3,h4,h5⟩=>⟨rs,?_,⟨h1,by rw [h2];omega,h3,?_⟩,h5⟩
    ·rw [he,h2,show n - s / 64 = n by omega]
    ·rw [h4,htk,dn2,Nat.mul_div_cancel _ hp2]
   have Hsd:=Lib.hid hsd
   have Hdn1:=Lib.hid dn1
   have hBq : C4 u b4 qs:=hB.tail.tail.head
   have HBq:=Lib.hid hBq
   have HG:=Lib.hid hG
   have hnm : (n : Int) ≤ (m : Int) + 1:=by omega
   clear hsd dn1 dn2 hvW hult htk htl hp2 hbu hBq hB hG hV0
   have hc : decide ((0 : Int) ≤ ((0 : Nat) : Int) - 1) = false:=by decide
   go_wp2_with (go_at_call 194;((with_reducible refine (Hsd.out _ (A3.refl _)).mono ?_);rintro e w1 ⟨rs,rfl,hr,hg⟩;have Hr:=Lib.hid hr;have Hg:=Lib.hid hg;clear hr hg))
   go_ret2
   exact ⟨b4,u.heap.size,qs,rs,by rw [Hql.out,Hr.out.2.1];rfl,HBq.out.grow Hg.out,Hr.out.1,HI.out.2.1,Hr.out.2.2.1,by rw [Hql.out];have := Hk0.out;omega,by rw [Hr.out.2.1];exact hle,Hdn1.out,Hr.out.2.2.2,HG.out.trans Hg.out⟩
  ·obtain ⟨j,rfl⟩ : ∃ j,k = j + 1:=⟨k - 1,by omega⟩
   obtain ⟨n2,hn2e⟩ : ∃ n2,n = n2 + 2:=⟨n - 2,by omega⟩
   have hn1e : n1 = n2 + 1:=by have := Hn1.out;omega
   have hvW : val W64 vs < W64 ^ (n2 + 2):=by have := HV.out.2.2.1;rw [hn1e] at this;exact this
   obtain ⟨d1,d2,d3,d4,d5⟩:=HI.out.top HV.out.2.1 hvW
   have hpre:=A8o B6 d1 HV.out.2.1 d2 d3 d4
   have hgok:=fun g=>A9A (g:=g) B6 d1 HV.out.2.1 d2 d3 (by have := HV.out.2.2.2.1;rw [hn1e] at this;exact this) d4
   rw [← A2m B6 HI.out.1] at hgok
   simp only [A0L] at hpre hgok
   have hkk : j + n < m + 1:=by have := Hk0.out;omega
   obtain ⟨J2,hJ2⟩ : ∃ J,J = j + n:=⟨_,rfl⟩
   obtain ⟨J1,hJ1⟩ : ∃ J,J = j + (n2 + 1):=⟨_,rfl⟩
   obtain ⟨J0,hJ0⟩ : ∃ J,J = j + n2:=⟨_,rfl⟩
   have e2 : j + (n2 + 2) = J2:=by omega
   rw [e2,← hJ1,← hJ0,← hn1e] at hgok
   rw [e2,← hn1e] at hpre
   have g2 : (C0 us)[J2]? = some (.int .u64 (dg us J2 : Nat)):=by rw [T6,List.getElem?_eq_getElem (by rw [Hul.out];omega),← D3 (by rw [Hul.out];omega)];rfl
   have g1 : (C0 us)[J1]? = some (.int .u64 (dg us J1 : Nat)):=by rw [T6,List.getElem?_eq_getElem (by rw [Hul.out];omega),← D3 (by rw [Hul.out];omega)];rfl
   have g0 : (C0 us)[J0]? = some (.int .u64 (dg us J0 : Nat)):=by rw [T6,List.getElem?_eq_getElem (by rw [Hul.out];omega),← D3 (by rw [Hul.out];omega)];rfl
   have p1 : (C0 vs)[n1]? = some (.int .u64 (dg vs n1 : Nat)):=by rw [T6,List.getElem?_eq_getElem (by rw [HV.out.1];omega),← D3 (by rw [HV.out.1];omega)];rfl
   have p0 : (C0 vs)[n2]? = some (.int .u64 (dg vs n2 : Nat)):=by rw [T6,List.getElem?_eq_getElem (by rw [HV.out.1];omega),← D3 (by rw [HV.out.1];omega)];rfl
   have hgw:=fun W=>B3d (dg us J2) (dg us J1) (dg us J0) (dg vs n1) (dg vs n2) hpre (B9 B6 HI.out.1 _) (B9 B6 HI.out.1 _) (B9 B6 HV.out.2.1 _) (B9 B6 HV.out.2.1 _) W
   have fa : IntKind.i64.wrap ((j : Int) + (n : Int)) = (J2 : Nat):=by rw [show ((j : Int) + (n : Int)) = (J2 : Nat) by omega];exact IntWalk.i64_in _ (by omega)
   have fb : IntKind.i64.wrap ((J2 : Int) - 1) = (J1 : Nat):=by rw [show ((J2 : Int) - 1) = (J1 : Nat) by omega];exact IntWalk.i64_in _ (by omega)
   have fc : IntKind.i64.wrap ((J2 : Int) - 2) = (J0 : Nat):=by rw [show ((J2 : Int) - 2) = (J0 : Nat) by omega];exact IntWalk.i64_in _ (by omega)
   have fd : IntKind.i64.wrap ((n : Int) - 2) = (n2 : Nat):=by rw [show ((n : Int) - 2) = (n2 : Nat) by omega];exact IntWalk.i64_in _ (by omega)
   have hb2 : (J2 : Int) < (m : Int) + 1:=by omega
   have hb1 : (J1 : Int) < (m : Int) + 1:=by omega
   have hb0 : (J0 : Int) < (m : Int) + 1:=by omega
   have hn2n : n2 < n:=by omega
   obtain ⟨U2,hU2⟩ : ∃ x,x = dg us J2:=⟨_,rfl⟩
   obtain ⟨U1,hU1⟩ : ∃ x,x = dg us J1:=⟨_,rfl⟩
   obtain ⟨U0,hU0⟩ : ∃ x,x = dg us J0:=⟨_,rfl⟩
   obtain ⟨V1,hV1⟩ : ∃ x,x = dg vs n1:=⟨_,rfl⟩
   obtain ⟨V0,hV0⟩ : ∃ x,x = dg vs n2:=⟨_,rfl⟩
   rw [← hU2,← hU1,← hU0,← hV1,← hV0] at hgw
   rw [← hU2] at g2
   rw [← hU1] at g1
   rw [← hU0] at g0
   rw [← hV1] at p1
   rw [← hV0] at p0
   simp only [← hU2,← hU1,← hU0,← hV1,← hV0] at hgok
   have Hgw:=Lib.hid hgw
   have Hgok:=Lib.hid hgok
   have Hd5:=Lib.hid d5
   have HJ2:=Lib.hid hJ2
   have Hn2e:=Lib.hid hn2e
   have Hn1e:=Lib.hid hn1e
   have HvW:=Lib.hid hvW
   have e1 : ((j + 1 : Nat) : Int) - 1 = (j : Nat):=by omega
   rw [e1]
   clear hgw hgok hpre d1 d2 d3 d4 d5 e2 hJ2 hJ1 hJ0 hn2e hn1e hvW hU2 hU1 hU0 hV1 hV0 e1
   have hc0 : decide ((0 : Int) ≤ (j : Int)) = true:=by simp
   go_wp2_with fail
   refine rdC A5 [] [(0,0),(0,1),(0,2),(0,3),(0,4),(0,5),(0,6),(0,7),(0,8),(0,9),(0,10),(0,11),(0,12),(0,13),(0,14),(0,15),(0,16),(0,17),(0,18),(0,19),(0,20),(0,21),(0,22),(0,23),(0,24),(0,25),(0,26),(0,27),(0,28),(0,29),(1,30)] hB hG fun K L hN hL=>?_
   refine gs ?_
   refine gxd (X:=Nat) (fun g : Nat=>.int .u64 g) (fun g W=>GW W64 U2 U1 U0 V1 V0 g) (fun x u u' hg h=>h) (fun x87=>?_) (C:=fun v _=>Hgw.out _)
   refine geC hL ?_
   clear hB hG hL L
   rintro u ⟨⟨-,hB,hG,-⟩,hx87⟩
   refine gt ?_
   clear hN K
   obtain ⟨g,rfl⟩ : ∃ g,g = x87:=⟨_,rfl⟩
   have hgW : g < 18446744073709551616:=hx87.1
   have hcase:=Hgok.out g hx87
   have Hcase:=Lib.hid hcase
   clear hcase hx87 g2 g1 g0 p1 p0 Hgw Hgok
   clear fb fc fd hb1 hb0
   refine A4 ?_
   go_wp2_with fail
   go_loopw [12,13,89] (fun x y t wr=>∃ (i cy br : Nat) (zs : List Nat),i ≤ n ∧ t = .int .i64 i ∧ x = .int .u64 cy ∧ y = .int .u64 br ∧ DvM W64 j g vs us i cy br zs ∧ Bx wr [(b9,33,C0 zs),(b8,33,C0 vs),(b4,33,C0 qs)] ∧ A3 w wr) (fun _ _ t _=>n - (intOf t).toNat)
   case atStart=>exact ⟨0,0,0,us,by omega,rfl,rfl,rfl,DvM.start B6 HI.out.1,hB,hG⟩
   case round =>
    clear hB hG u
    obtain ⟨i,cy,br,zs,hi,rfl,rfl,rfl,hM,hB,hG⟩:=hrel
    obtain ⟨u,rfl⟩ : ∃ x,x = wr:=⟨_,rfl⟩
    have hcyW:=hM.2.2.2.2.1
    have hbr:=hM.2.2.2.2.2
    have hzl:=hM.1
    have HM:=Lib.hid hM
    have HB:=Lib.hid hB
    have HG:=Lib.hid hG
    rw [Hul.out] at hzl
    clear hM
    rcases Nat.lt_or_ge i n with hin | hin
    ·have hJI : j + i < m + 1:=by have := Hk0.out;omega
     obtain ⟨q1,q2⟩:=A1a hB (b:=b9) (zs:=zs) (by simp) (i:=j + i) (by omega)
     obtain ⟨q3,q4⟩:=A1a hB (b:=b8) (zs:=vs) (by simp) (i:=i) (by rw [HV.out.1];omega)
     rw [HM.out.2.2.1 (j + i) (Nat.le_refl _)] at q1
     have hnx:=HM.out.next B6 hgW HV.out.2.1 HI.out.1 (by rw [Hul.out];exact hJI)
     have hxW:=B9 B6 HV.out.2.1 i
     have huW:=B9 B6 HI.out.1 (j + i)
     obtain ⟨x,hx⟩ : ∃ x,x = dg vs i:=⟨_,rfl⟩
     obtain ⟨uu,huu⟩ : ∃ x,x = dg us (j + i):=⟨_,rfl⟩
     rw [← hx] at q3 hnx hxW
     rw [← huu] at q1 hnx huW
     have hml:=B4u g x hgW hxW
     have hmw:=A9Z B6 hgW hxW hcyW
     have hloW : g * x % W64 < 18446744073709551616:=Nat.mod_lt _ B6
     obtain ⟨hi',hhi⟩ : ∃ q,q = g * x / W64:=⟨_,rfl⟩
     obtain ⟨lo,hlo⟩ : ∃ q,q = g * x % W64:=⟨_,rfl⟩
     rw [← hhi,← hlo] at hml hnx hmw
     rw [← hlo] at hloW
     have hadd:=R4 lo cy 0 (by omega) (lo : Int) (cy : Int) 0 rfl rfl rfl
     rw [Nat.add_zero] at hadd
     have hs1W : (lo + cy) % W64 < 18446744073709551616:=Nat.mod_lt _ B6
     obtain ⟨s1,hs1⟩ : ∃ q,q = (lo + cy) % W64:=⟨_,rfl⟩
     obtain ⟨c,hcc⟩ : ∃ q,q = (lo + cy) / W64:=⟨_,rfl⟩
     rw [show (18446744073709551616 : Nat) = W64 from rfl] at hadd
     rw [← hs1,← hcc] at hadd hnx hmw
     rw [← hs1] at hs1W
     obtain ⟨cy',hcy'⟩ : ∃ q,q = hi' + c:=⟨_,rfl⟩
     rw [← hcy'] at hnx hmw
     have fcy : IntKind.u64.wrap ((hi' : Int) + (c : Int)) = (cy' : Nat):=by rw [show ((hi' : Int) + (c : Int)) = (cy' : Nat) by omega];exact C5 hmw.1
     have hsub:=A1M uu s1 br hbr (uu : Int) (s1 : Int) (br : Int) rfl rfl rfl
     rw [show (18446744073709551616 : Nat) = W64 from rfl] at hsub
     obtain ⟨z,hz⟩ : ∃ q,q = (uu + W64 - s1 - br) % W64:=⟨_,rfl⟩
     obtain ⟨br',hbr'⟩ : ∃ q,q = (if uu < s1 + br then 1 else 0 : Nat):=⟨_,rfl⟩
     rw [← hz,← hbr'] at hsub hnx
     have Hml:=Lib.hid hml
     have Hnx:=Lib.hid hnx
     obtain ⟨JI,hJe⟩ : ∃ J,J = j + i:=⟨_,rfl⟩
     rw [← hJe] at q1 q2 hJI
     have HJe:=Lib.hid hJe
     have fJ : IntKind.i64.wrap ((j : Int) + (i : Int)) = (JI : Nat):=by rw [show ((j : Int) + (i : Int)) = (JI : Nat) by omega];exact IntWalk.i64_in _ (by omega)
     have hJb : (JI : Int) < (m : Int) + 1:=by omega
     have hdi : decide ((i : Int) < (n : Int)) = true:=by simp;omega
     clear hml hnx hx huu hhi hlo hs1 hcc hcy' hz hbr' hJe hmw hB hG
     go_wp2_with (go_at_call 123;((with_reducible refine (Hml.out _).mono ?_);rintro e w1 ⟨rfl,rfl⟩))
     go_roundw
     case rel =>
      have hb:=A3m HB.out hF HG.out JI z
      exact ⟨i + 1,cy',br',zs.set JI z,by omega,by go_num,rfl,rfl,by rw [HJe.out];exact Hnx.out,hb.1,hb.2⟩
     case measure=>simp [intOf];omega
    ·obtain rfl : i = n:=by omega
     have hJ : j + i < us.length:=by rw [Hul.out];exact hkk
     have hvn:=A4y (n:=i) HV.out.2.1 (by have := HvW.out;rw [← Hn2e.out] at this;exact this)
     have hls:=HM.out.last B6 HI.out.1 hJ hvn
     obtain ⟨q1,q2⟩:=A1a hB (b:=b9) (zs:=zs) (by simp) (i:=j + i) (by omega)
     rw [HM.out.2.2.1 (j + i) (Nat.le_refl _)] at q1
     have huW:=B9 B6 HI.out.1 (j + i)
     obtain ⟨uu,huu⟩ : ∃ x,x = dg us (j + i):=⟨_,rfl⟩
     rw [← huu] at q1 hls huW
     have hsub:=A1M uu cy br hbr (uu : Int) (cy : Int) (br : Int) rfl rfl rfl
     rw [show (18446744073709551616 : Nat) = W64 from rfl] at hsub
     obtain ⟨z,hz⟩ : ∃ q,q = (uu + W64 - cy - br) % W64:=⟨_,rfl⟩
     rw [← hz] at hsub hls
     rw [← HJ2.out] at q1 q2 hls
     obtain ⟨ys,hys⟩ : ∃ y,y = zs.set J2 z:=⟨_,rfl⟩
     have hb:=A3m HB.out hF HG.out J2 z
     rw [← hys] at hls hb
     obtain ⟨y1,y2,y3,y4⟩:=hls
     have hjk : j < qs.length:=by rw [Hql.out];omega
     obtain ⟨q5,q6⟩:=A1a hb.1 (b:=b4) (zs:=qs) (by simp) (i:=j) hjk
     have hdi : decide ((i : Int) < (i : Int)) = false:=by simp
     have Hb:=Lib.hid hb
     have hjk0 : (j : Int) < (k0 : Int):=by have := Hql.out;omega
     have hV0 : 0 < val W64 vs:=by
      rw [HV.out.2.2.2.2.2];exact Nat.mul_pos HV.out.2.2.2.2.1 (Nat.two_pow_pos _)
     have Hy:=Lib.hid (And.intro y1 (And.intro y2 y3))
     clear hz huu hys y1 y2 y3 hvn hB hG hb HB HG HM hJ
     by_cases huc : uu < cy + br
     ·rw [if_pos huc] at hsub y4
      have hylt : val W64 ys < W64 ^ (j + i + 1):=A1W B6 Hy.out.2.1 fun t ht=>by
       rw [Hy.out.2.2 t (by rw [HJ2.out];exact ht)]
       exact Hd5.out t (by have := Hn2e.out;omega)
      have hgp:=A89 hylt (by rw [← HJ2.out];exact y4)
      have Hylt:=Lib.hid hylt
      have Hy4:=Lib.hid y4
      have HV0:=Lib.hid hV0
      obtain ⟨g1,hg1⟩ : ∃ q,g = q + 1:=⟨g - 1,by omega⟩
      have fg : IntKind.u64.wrap ((g : Int) - 1) = (g1 : Nat):=by rw [show ((g : Int) - 1) = (g1 : Nat) by omega];exact C5 (by omega)
      have Hg1:=Lib.hid hg1
      clear hg1 hylt y4 hV0 hgp
      go_wp2_with fail
      clear hsub q1 q2 q5 q6 huc
      go_loopw [19,150] (fun x t wr=>∃ (p c : Nat) (zs : List Nat),p ≤ i ∧ t = .int .i64 p ∧ x = .int .u64 c ∧ DvA W64 j vs ys p c zs ∧ Bx wr [(b9,33,C0 zs),(b8,33,C0 vs),(b4,33,C0 qs)] ∧ A3 w wr) (fun _ t _=>i - (intOf t).toNat)
      case atStart=>exact ⟨0,0,ys,by omega,rfl,rfl,DvA.start Hy.out.2.1,Hb.out.1,Hb.out.2⟩
      case round =>
       clear u Hb
       obtain ⟨p,c,zs,hp,rfl,rfl,hA,hB,hG⟩:=hrel
       obtain ⟨u,rfl⟩ : ∃ x,x = wr:=⟨_,rfl⟩
       have hc1:=hA.2.2.2.2
       have hzl:=hA.1
       rw [Hy.out.1,Hul.out] at hzl
       have HA:=Lib.hid hA
       clear hA
       rcases Nat.lt_or_ge p i with hpi | hpi
       ·have hJP : j + p < m + 1:=by omega
        have k1 : (C0 zs)[j + p]? = some (.int .u64 (dg ys (j + p) : Nat)):=by rw [T6,List.getElem?_eq_getElem (by omega),← D3 (by omega),HA.out.2.2.1 (j + p) (Nat.le_refl _)];rfl
        have k2 : (C0 vs)[p]? = some (.int .u64 (dg vs p : Nat)):=by rw [T6,List.getElem?_eq_getElem (by rw [HV.out.1];omega),← D3 (by rw [HV.out.1];omega)];rfl
        have hnx:=HA.out.next B6 HV.out.2.1 Hy.out.2.1 (by rw [Hy.out.1,Hul.out];exact hJP)
        obtain ⟨x,hx⟩ : ∃ x,x = dg vs p:=⟨_,rfl⟩
        obtain ⟨yy,hyy⟩ : ∃ x,x = dg ys (j + p):=⟨_,rfl⟩
        rw [← hx] at k2 hnx
        rw [← hyy] at k1 hnx
        have hadd:=R4 yy x c hc1 (yy : Int) (x : Int) (c : Int) rfl rfl rfl
        rw [show (18446744073709551616 : Nat) = W64 from rfl] at hadd
        obtain ⟨z3,hz3⟩ : ∃ q,q = (yy + x + c) % W64:=⟨_,rfl⟩
        obtain ⟨c3,hc3⟩ : ∃ q,q = (yy + x + c) / W64:=⟨_,rfl⟩
        rw [← hz3,← hc3] at hadd hnx
        have Hnx:=Lib.hid hnx
        obtain ⟨JP,hJe⟩ : ∃ J,J = j + p:=⟨_,rfl⟩
        rw [← hJe] at k1
        have HJe:=Lib.hid hJe
        have fJ : IntKind.i64.wrap ((j : Int) + (p : Int)) = (JP : Nat):=by rw [show ((j : Int) + (p : Int)) = (JP : Nat) by omega];exact IntWalk.i64_in _ (by omega)
        have hJb : (JP : Int) < (m : Int) + 1:=by omega
        have hpb : (p : Int) < (i : Int):=by omega
        have hdp : decide ((p : Int) < (i : Int)) = true:=by simp;omega
        clear hnx hx hyy hz3 hc3 hJe hJP
        go_wp2_with fail
        refine rdC A5 [18] [(0,0),(0,1),(0,2),(0,3),(0,4),(0,5),(0,6),(0,7),(0,8),(0,9),(0,10),(0,11),(0,12),(0,13),(0,14),(1,15),(0,16),(0,17),(0,18),(0,19)] hB hG fun K L hN hL=>?_
        refine gs ?_
        apply gm
        ·exact rfl
        ·(rintro v ⟨hgu,hB,hG,-⟩ N hN;go_simp;exact hN _ (A3.refl _))
        refine okf (by simp only [Act.put,List.setIfInBounds_toArray,List.set_cons_succ,List.set_cons_zero];exact rfl) ?_
        refine gs ?_
        refine geC hL ?_
        clear hB hG hL L
        rintro u ⟨-,hB,hG,-⟩
        refine gt ?_
        clear hN K
        have hb:=A3m hB hF hG JP z3
        clear hB hG
        generalize World.setCell u _ _ = u0 at hb ⊢
        obtain ⟨hB,hG⟩:=hb
        obtain ⟨u,rfl⟩ : ∃ x,x = u0:=⟨_,rfl⟩
        refine F0 (A4 ?_)
        go_wp2_with fail
        go_roundw
        case rel=>exact ⟨p + 1,c3,zs.set JP z3,by omega,by go_num,rfl,by rw [HJe.out];exact Hnx.out,hB,hG⟩
        case measure=>simp [intOf];omega
       ·obtain rfl : p = i:=by omega
        have hJ : j + p < ys.length:=by rw [Hy.out.1,Hul.out];exact hkk
        have hvW : val W64 vs < W64 ^ p:=by have := HvW.out;rw [← Hn2e.out] at this;exact this
        have hla:=HA.out.last B6 hJ (A4y HV.out.2.1 hvW)
        obtain ⟨q1,q2⟩:=A1a hB (b:=b9) (zs:=zs) (by simp) (i:=j + p) (by omega)
        rw [HA.out.2.2.1 (j + p) (Nat.le_refl _)] at q1
        obtain ⟨yy,hyy⟩ : ∃ x,x = dg ys (j + p):=⟨_,rfl⟩
        rw [← hyy] at q1 hla
        obtain ⟨z4,hz4⟩ : ∃ q,q = (yy + c) % W64:=⟨_,rfl⟩
        have fz : IntKind.u64.wrap ((yy : Int) + (c : Int)) = (z4 : Nat):=by
         rw [show ((yy : Int) + (c : Int)) = ((yy + c : Nat) : Int) by omega,hz4];exact A2Y
        rw [← hz4,← HJ2.out] at hla
        rw [← HJ2.out] at q1 q2
        obtain ⟨xs,hxs⟩ : ∃ y,y = zs.set J2 z4:=⟨_,rfl⟩
        have hb:=A3m hB hF hG J2 z4
        rw [← hxs] at hla hb
        obtain ⟨x1,x2,x3,x4⟩:=hla
        have hjk : j < qs.length:=by rw [Hql.out];omega
        obtain ⟨q5,q6⟩:=A1a hb.1 (b:=b4) (zs:=qs) (by simp) (i:=j) hjk
        have hxlt : val W64 xs < W64 ^ (j + p + 1):=A1W B6 x2 fun t ht=>by
         rw [x3 t (by rw [HJ2.out];exact ht),Hy.out.2.2 t (by rw [HJ2.out];exact ht)]
         exact Hd5.out t (by have := Hn2e.out;omega)
        have hVM : val W64 vs * W64 ^ j ≤ W64 ^ (j + p + 1):=by
         refine Nat.le_trans (Nat.mul_le_mul_right _ (Nat.le_of_lt hvW)) ?_
         rw [← Nat.pow_add]
         exact Nat.pow_le_pow_right B6 (by omega)
        have hv4:=Hy4.out
        rw [HJ2.out] at hv4 x4
        have hbk:=HI.out.back (n:=p) B6 HV0.out hgW hjk Hcase.out hVM Hylt.out hv4 x2 hxlt x4
        have hbk2:=hbk.2
        rw [show g - 1 = g1 by have := Hg1.out;omega] at hbk2
        have Hbk:=Lib.hid hbk2
        have Hb:=Lib.hid hb
        have Hx1:=Lib.hid x1
        have hdp : decide ((p : Int) < (p : Int)) = false:=by simp
        have hjk0 : (j : Int) < (k0 : Int):=by have := Hql.out;omega
        clear hbk hbk2 hv4 hVM hxlt x1 x2 x3 x4 hb hxs hz4 hyy hvW hB hG hJ HA
        go_wp2_with fail
        go_roundw
        case rel =>
         have hb2:=A6i Hb.out.1 hF Hb.out.2 j g1
         exact ⟨j,xs,qs.set j g1,by omega,by go_num,Hbk.out,by rw [Hx1.out,Hy.out.1];exact Hul.out,by rw [List.length_set];exact Hql.out,hb2.1,hb2.2⟩
        case measure=>simp [intOf]
     ·rw [if_neg huc] at hsub y4
      have hfit:=HI.out.fit B6 hV0 hgW hjk Hcase.out Hy.out.2.1 (by rw [y4,Nat.zero_mul,Nat.add_zero])
      have Hfit:=Lib.hid hfit
      clear hfit hV0 y4
      go_wp2_with fail
      go_roundw
      case rel =>
       have hb2:=A6i Hb.out.1 hF Hb.out.2 j g
       exact ⟨j,ys,qs.set j g,by omega,by go_num,Hfit.out,by rw [Hy.out.1];exact Hul.out,by rw [List.length_set];exact Hql.out,hb2.1,hb2.2⟩
      case measure=>simp [intOf]
end Go.Proofs.YtlkniebmjdoopaaGreatDoor
