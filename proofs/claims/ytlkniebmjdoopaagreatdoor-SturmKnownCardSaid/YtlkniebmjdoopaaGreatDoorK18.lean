/- Contracts and laws. -/
import Derived.Test.YtlkniebmjdoopaaGreatDoorK16
import Derived.Deep.LoopGhost
import Derived.Deep.RegionWith
set_option linter.unusedSimpArgs false
set_option linter.unusedVariables false
set_option maxHeartbeats 4000000
set_option maxRecDepth 100000
namespace Go.Proofs.YtlkniebmjdoopaaGreatDoor
open Go.RowKit
theorem B3R {W : Nat} (hW : 0 < W) {l : List Nat} (hd : Dig W l) (k : Nat) : dg l k = val W l / W ^ k % W:=by
 rcases Nat.lt_or_ge k l.length with hk | hk
 ·have h1:=A4c hW hd k
  rw [List.drop_eq_getElem_cons hk,← D3 hk,K3] at h1
  rw [← h1,Nat.add_mul_mod_self_left,Nat.mod_eq_of_lt (B9 hW hd k)]
 ·rw [X1 hk,Nat.div_eq_of_lt (Nat.lt_of_lt_of_le (H5 hd) (Nat.pow_le_pow_right hW hk)),Nat.zero_mod]
theorem B42 {l : List Nat} (hd : Dig W64 l) (i : Nat) : dg l (i / 8) / 2 ^ (8 * (i % 8)) % 256 = val W64 l / 256 ^ i % 256:=by
 rw [B3R B6 hd,A57 i,← Nat.div_div_eq_div_mul]
 generalize val W64 l / W64 ^ (i / 8) = x
 have hr : i % 8 < 8:=Nat.mod_lt _ (by omega)
 generalize i % 8 = r at hr
 have e2 : W64 = 2 ^ (8 * r) * (256 * 2 ^ (56 - 8 * r)):=by
  rw [R5,show (256 : Nat) = 2 ^ 8 from rfl,← Nat.pow_add,← Nat.pow_add]
  congr 1
  omega
 rw [e2,Nat.mod_mul_right_div_self,Nat.mod_mul_right_mod]
def T5 (B V n : Nat) : List Nat:=(List.range n).map fun i=>V / B ^ i % B
theorem A5G (B V n : Nat) : (T5 B V n).length = n:=by unfold T5;simp
theorem B4k (B V n : Nat) : val B (T5 B V n) = V % B ^ n:=by
 induction n with
 | zero=>simp [T5,val,Nat.mod_one]
 | succ n ih =>
  have e : T5 B V (n + 1) = T5 B V n ++ [V / B ^ n % B]:=by unfold T5;rw [List.range_succ,List.map_append];rfl
  rw [e,W9,A5G,ih,Nat.mod_pow_succ]
theorem B1A (B V n : Nat) {i : Nat} (h : i < n) : dg (T5 B V n) i = V / B ^ i % B:=by
 rw [D3 (by rw [A5G];exact h)];unfold T5;simp
theorem B15 {B : Nat} (hB : 0 < B) (V n : Nat) : Dig B (T5 B V n):=fun x hx=>by
 unfold T5 at hx
 obtain ⟨i,_,rfl⟩:=List.mem_map.1 hx
 exact Nat.mod_lt _ hB
theorem B5y (b off : Nat) (l : List Nat) (c : Nat) (hd : Dig W64 l) (hm : l.length ≤ 17179869180) (w : World) (h : Wds w b off l) :
  Calls Tryz.prog 163 #[.slice (some ⟨b,off,none⟩) l.length c] w fun e w'=>e = .returned (A6 (val W64 l)) ∧ A3 w w':=by
 obtain ⟨m,hmm⟩ : ∃ m,m = l.length:=⟨_,rfl⟩
 obtain ⟨n,hn⟩ : ∃ n,n = 8 * m:=⟨_,rfl⟩
 obtain ⟨V,hV⟩ : ∃ V,V = val W64 l:=⟨_,rfl⟩
 have hVn : V < 256 ^ n:=by
  have := H5 hd
  rw [hV,hn,Nat.pow_mul,hmm]
  exact this
 obtain ⟨bs,hbs⟩ : ∃ bs,bs = T5 256 V n:=⟨_,rfl⟩
 have hbl : bs.length = n:=by rw [hbs,A5G]
 have hbv : val 256 bs = V:=by rw [hbs,B4k,Nat.mod_eq_of_lt hVn]
 have hbd : Dig 256 bs:=by rw [hbs];exact B15 (by omega) V n
 have hbg : ∀ i,i < n → dg l (i / 8) / 2 ^ (8 * (i % 8)) % 256 = dg bs i:=fun i hi=>by rw [B42 hd,hbs,B1A _ _ _ hi,hV]
 have hb0 : List.replicate n 0 = J8 bs 0:=by unfold J8;rw [hbl];simp
 rw [← hV,← hmm]
 rw [← hmm] at hm
 have hnm : 8 * (m : Int) = (n : Int):=by omega
 have hmk:=A41 n (by omega) (n : Int) rfl
 have hnb : n ≤ 137438953440:=by omega
 have hnm2 : n ≤ 8 * m:=by omega
 have H:=Lib.hid h
 have Hd:=Lib.hid hd
 have Hmm:=Lib.hid hmm
 have Hbl:=Lib.hid hbl
 have Hbv:=Lib.hid hbv
 have Hbd:=Lib.hid hbd
 have Hbg:=Lib.hid hbg
 have Hb0:=Lib.hid hb0
 have fw0 : IntKind.i64.wrap (8 * (m : Int)) = (n : Int):=by rw [hnm];exact IntWalk.i64_in _ (by omega)
 clear h hd hmm hn hV hVn hbs hbl hbv hbd hbg hb0
 go_enter Tryz.func163,Tryz.ntmps163
 refine en1 ?_
 intro u hG b2 hB hF
 refine r0T ?_
 have hbo:=Blk.new u 5 (I0 (List.replicate n 0))
 have hF3:=Fr.new (tk:=[]) hF hB hG (Nat.le_refl u.heap.size) (by simp)
 have hB3:=Bx.cons hbo (hB.grow (A3.alloc u (.cells (I0 (List.replicate n 0)) 5)))
 have hG3:=hG.trans (A3.alloc u (.cells (I0 (List.replicate n 0)) 5))
 simp only [List.cons_append,List.nil_append,List.map_cons,List.map_nil] at hF3
 clear hB hF hG hbo
 generalize World.alloc u _ = v at  hB3 hG3 ⊢
 generalize u.heap.size = b3 at hB3 hF3 ⊢
 have hB:=hB3
 have hF:=hF3
 have hG:=hG3
 clear hB3 hF3 hG3
 obtain ⟨u,rfl⟩ : ∃ x,x = v:=⟨_,rfl⟩
 rw [Hb0.out] at hB
 refine wp_seq ?_
 refine r0T ?_
 refine wp_block ?_
 go_loopw [11] (fun s0 wr=>∃ (i : Nat) ,i ≤ n ∧ s0 = .int .i64 i ∧ Bx wr [(b3,5,I0 (J8 bs i)),(b2,35,#[.int .u64 0,.string ⟨#[]⟩])] ∧ A3 w wr) (fun s0 _=>n - (intOf s0).toNat)
 case atStart=>exact ⟨0,Nat.zero_le _,rfl,hB,hG⟩
 case round =>
  clear hB hG
  obtain ⟨i,hi,rfl,hB,hG⟩:=hrel
  obtain ⟨u,rfl⟩ : ∃ x,x = wr:=⟨_,rfl⟩
  rcases Nat.lt_or_ge i n with hlt0 | hge0
  ·have hdec : decide ((i : Int) < (n : Int)) = true:=by simp;omega
   have hil : i < bs.length:=by rw [Hbl.out];exact hlt0
   have hst:=A46 bs hil
   rw [Hbl.out] at hst
   obtain ⟨k,hk⟩ : ∃ k,k = n - 1 - i:=⟨_,rfl⟩
   rw [← hk] at hst
   have hki : (n : Int) - 1 - (i : Int) = (k : Int):=by omega
   have hkn : k < n:=by omega
   have hq0 : i / 8 < l.length:=by rw [← Hmm.out];omega
   have hby:=Hbg.out i hlt0
   have hyl:=B9 (by omega) Hbd.out i
   have hxl : dg l (i / 8) < 18446744073709551616:=B9 B6 Hd.out _
   obtain ⟨q,hq⟩ : ∃ q,q = i / 8:=⟨_,rfl⟩
   obtain ⟨p,hp⟩ : ∃ r,r = i % 8:=⟨_,rfl⟩
   rw [← hq,← hp] at hby
   rw [← hq] at hq0 hxl
   have hcl : ∀ W,A3 w W → W.cell? ⟨b,off + q,none⟩ = some (.int .u64 (dg l q : Nat)):=fun W hg=>by rw [D3 hq0];exact (H.out.grow hg).cell hq0
   obtain ⟨x,hx⟩ : ∃ x,x = dg l q:=⟨_,rfl⟩
   obtain ⟨y,hy⟩ : ∃ y,y = dg bs i:=⟨_,rfl⟩
   rw [← hx] at hby hxl
   simp only [← hx] at hcl
   rw [← hy] at hby hyl hst
   have hp8 : p < 8:=by omega
   have hqm : q < m:=by omega
   have f1 : (i : Int).tdiv 8 = (q : Int):=by rw [Int.tdiv_eq_ediv_of_nonneg (by omega)];omega
   have f2 : (i : Int).tmod 8 = (p : Int):=by rw [Int.tmod_eq_emod_of_nonneg (by omega)];omega
   have f3 : (i : Int) / 8 = (q : Int):=by omega
   have f4 : (i : Int) % 8 = (p : Int):=by omega
   have f7 : (8 * (p : Int)).toNat = 8 * p:=by omega
   have f8 : min (8 * p) 64 = 8 * p:=by omega
   have f5 : ((x : Int) / 2 ^ (8 * p) % 256) = (y : Int):=by rw [← hby];simp
   have g1 : ∃ old,(I0 (J8 bs i))[k]? = some old:=by
    rw [A3d,List.getElem?_eq_getElem (by rw [A6g bs (by omega),Hbl.out];exact hkn)]
    exact ⟨_,rfl⟩
   obtain ⟨old,g1⟩:=g1
   have G2:=Lib.hid (show (I0 (J8 bs i)).setIfInBounds k (.int .u8 (y : Nat)) = I0 (J8 bs (i + 1)) by rw [A5o,hst])
   have Hcl:=Lib.hid hcl
   clear hil hst hk hq0 hby hq hp hcl hx hy
   refine r0T ?_
   refine wp_seq ?_
   refine wp_cond_true (rfl) ?_
   refine wp_skip ?_
   refine A4 ?_
   refine wp_seq ?_
   refine wp_block ?_
   refine r0T ?_
   have hcb:=Hcl.out u hG
   refine r0E ?_
   generalize hu0 : World.setCell u _ _ = u0
   have hBG:=hB.over hF hG 0 rfl k [_] hu0
   clear hB hG
   simp only [List.modify_succ_cons,List.modify_zero_cons,G6,G2.out] at hBG
   obtain ⟨hB,hG⟩:=hBG
   clear hu0
   obtain ⟨u,rfl⟩ : ∃ x,x = u0:=⟨_,rfl⟩
   refine F0 ?_
   refine A4 ?_
   refine r0E ?_
   refine A4 ?_
   go_roundw
   case rel=>exact ⟨i + 1,by omega,by go_num,hB,hG⟩
   case measure=>simp [intOf];try omega
  ·obtain rfl : n = i:=by omega
   have hdec : decide ((n : Int) < (n : Int)) = false:=by simp
   have hfb : ∀ W,Blk W b3 5 (I0 (J8 bs n)) → Calls Tryz.prog 145 #[.slice (some ⟨b3,0,none⟩) n n] W fun e w'=>e = .returned (A6 V) ∧ A3 W w':=fun W hw=>by
    have e : J8 bs n = bs.reverse:=by rw [← Hbl.out];exact A5h bs
    rw [e] at hw
    have := A8s (some ⟨b3,0,none⟩) bs.reverse n (fun x hx=>Hbd.out x (List.mem_reverse.1 hx)) (by rw [List.length_reverse,Hbl.out];omega) W (By.of hw)
    rw [List.length_reverse,Hbl.out,List.reverse_reverse,Hbv.out] at this
    exact this
   have Hfb:=Lib.hid hfb
   clear hfb
   refine r0T ?_
   refine wp_seq ?_
   refine wp_cond_false (rfl) ?_
   refine wp_exit ?_
   refine D7 ?_
   refine D7 ?_
   refine G8 ?_
   refine A4 ?_
   refine wp_seq (rsC A5 [0,1] hB hG fun K L hN hL=>?_)
   refine gs ?_
   refine gmd (C:=fun v ⟨hgu,hB,hG,_⟩=>Hfb.out _ hB.head) ?_
   refine geC hL ?_
   clear hB hG hL L
   rintro u ⟨-,hB,hG,-⟩
   refine gtT ?_
   clear hN K
   refine st hB hF hG 1 0 [_,_] ?_
   clear hB hG
   intro u hB hG
   refine rt Tryz.results163 ?_
   exact ⟨rfl,hG⟩
theorem B48 (A : Option Addr) (l : List Nat) (c n V : Nat) (hd : Dig W64 l) (hm : l.length ≤ 17179869184) (hn : n ≤ 65536) (hV : V = val W64 l * 2 ^ n) (w : World) (hr : Rd w A l) :
  Calls Tryz.prog 192 #[.slice A l.length c,.int .i64 n] w (I1 (fun x : Nat × List Nat=>.slice (some ⟨x.1,0,none⟩) x.2.length x.2.length) (fun x W=>C4 W x.1 x.2 ∧ x.2.length ≤ 17179970000 ∧ Dig W64 x.2 ∧ val W64 x.2 = V) w) :=
 (A6G A l c n hd (by omega) (by omega) w hr).mono fun e w' ⟨zs,he,h1,h2,h3,h4,h5⟩=>⟨(_,zs),he,⟨h1,by show zs.length ≤ _;omega,h3,h4.trans hV.symm⟩,h5⟩
theorem B4W (a n : Nat) (ha : bl a ≤ 1099511627776) (hn : n ≤ 65536) (w : World) : Calls Tryz.prog 164 #[A6 a,.int .i64 n] w fun e w'=>e = .returned (A6 (a * 2 ^ n)) ∧ A3 w w':=by
 obtain ⟨m,hm⟩ : ∃ m,m = (A7 W64 a).length:=⟨_,rfl⟩
 have hml : m ≤ 17179869184:=by rw [hm];exact Z4 (a:=a) (k:=17179869184) (by omega)
 obtain ⟨V,hV⟩ : ∃ V,V = a * 2 ^ n:=⟨_,rfl⟩
 have hsh : ∀ (W : World) (A : Option Addr),Rd W A (A7 W64 a) → Calls Tryz.prog 192 #[.slice A m m,.int .i64 n] W (I1 (fun x : Nat × List Nat=>.slice (some ⟨x.1,0,none⟩) x.2.length x.2.length) (fun x W=>C4 W x.1 x.2 ∧ x.2.length ≤ 17179970000 ∧ Dig W64 x.2 ∧ val W64 x.2 = V) W):=fun W A h=>by
  have := B48 A (A7 W64 a) m n V (F2 C7 a) (by omega) hn (by rw [D5 C7];exact hV) W h
  rw [← hm] at this
  exact this
 have hfw : ∀ (W : World) (x : Nat × List Nat),(C4 W x.1 x.2 ∧ x.2.length ≤ 17179970000 ∧ Dig W64 x.2 ∧ val W64 x.2 = V) → Calls Tryz.prog 124 #[.slice (some ⟨x.1,0,none⟩) x.2.length x.2.length] W fun e w'=>e = .returned (A6 V) ∧ A3 W w':=fun W x ⟨h1,h2,h3,h4⟩=>by
  have := R8 (some ⟨x.1,0,none⟩) x.2 x.2.length W (fun _=>⟨x.1,0,rfl,h1.wds⟩) h3 (Nat.le_refl _) (by omega) (by omega)
  rw [h4] at this
  exact this
 rw [← hV]
 have Hw:=Lib.hid (A5C a ha m hm)
 have Hsh:=Lib.hid hsh
 have Hfw:=Lib.hid hfw
 have f1 : min (n : Int) 65536 = (n : Int):=by omega
 have f2 : max (-65536) (n : Int) = (n : Int):=by omega
 have f3 : decide ((n : Int) < 0) = false:=by simp
 clear hsh hfw ha hm hV
 go_enter Tryz.func164,Tryz.ntmps164
 refine en2 ?_
 intro u hG b4 b2 hB hF
 refine r0T ?_
 refine wp_seq ?_
 refine r0T ?_
 refine wp_cond_false (rfl) ?_
 refine wp_skip ?_
 refine A4 ?_
 refine wp_seq (rsC A5 [0,1,0,1,1] hB hG fun K L hN hL=>?_)
 refine gs ?_
 refine gxd (X:=Option Addr) (fun A=>.slice A m m) (fun A W=>Rd W A (A7 W64 a)) (fun _ _ _ hg h=>h.grow hg) (fun x17=>?_) (C:=fun v _=>Hw.out _)
 refine gs ?_
 refine gxd (X:=Nat × List Nat) (fun x=>.slice (some ⟨x.1,0,none⟩) x.2.length x.2.length) (fun x W=>C4 W x.1 x.2 ∧ x.2.length ≤ 17179970000 ∧ Dig W64 x.2 ∧ val W64 x.2 = V) (fun _ _ _ hg h=>⟨h.1.grow hg,h.2⟩) (fun x19=>?_) (C:=by (rintro v ⟨⟨hgu,hB,hG,-⟩,hx17⟩;exact Hsh.out _ _ hx17))
 refine gmd (C:=fun v ⟨⟨⟨hgu,hB,hG,_⟩,hx17⟩,hx19⟩=>Hfw.out _ x19 hx19) ?_
 refine geC hL ?_
 clear hB hG hL L
 rintro u ⟨⟨⟨hgu,hB,hG,-⟩,hx17⟩,hx19⟩
 clear hx17 hx19
 clear hgu
 refine gtT ?_
 clear hN K
 refine st hB hF hG 1 0 [_,_] ?_
 clear hB hG
 intro u hB hG
 refine rt Tryz.results164 ?_
 exact ⟨rfl,hG⟩
structure BinI (u wr : World) (bv ov cv : Nat) (lv : List Nat) (bw ow cw : Nat) (lw : List Nat) (g : Nat) : Prop where
 wv : Wds wr bv ov lv
 ww : Wds wr bw ow lw
 ne : bv ≠ bw
 uv : u.heap.size ≤ bv
 uw : u.heap.size ≤ bw
 dv : Dig W64 lv
 dw : Dig W64 lw
 tv : Q3 lv
 tw : Q3 lw
 av : val W64 lv % 2 = 1
 aw : val W64 lw % 2 = 1
 gc : Nat.gcd (val W64 lv) (val W64 lw) = g
 sv : lv.length ≤ cv
 sw : lw.length ≤ cw
 mv : cv ≤ 17179869180
 mw : cw ≤ 17179869180
 gr : A3 u wr
theorem BinI.swap {u wr : World} {bv ov cv : Nat} {lv : List Nat} {bw ow cw : Nat} {lw : List Nat} {g : Nat} (h : BinI u wr bv ov cv lv bw ow cw lw g) : BinI u wr bw ow cw lw bv ov cv lv g :=
 ⟨h.ww,h.wv,h.ne.symm,h.uw,h.uv,h.dw,h.dv,h.tw,h.tv,h.aw,h.av,by rw [Nat.gcd_comm];exact h.gc,h.sw,h.sv,h.mw,h.mv,h.gr⟩
theorem BinI.cmp {u wr : World} {bv ov cv : Nat} {lv : List Nat} {bw ow cw : Nat} {lw : List Nat} {g : Nat} (h : BinI u wr bv ov cv lv bw ow cw lw g) (W : World) (hg : A3 wr W) :
  Calls Tryz.prog 161 #[.slice (some ⟨bv,ov,none⟩) lv.length cv,.slice (some ⟨bw,ow,none⟩) lw.length cw] W fun e w'=>e = .returned (.int .i64 (E6 (val W64 lv) (val W64 lw))) ∧ A3 W w' :=
 B3U bv ov bw ow lv lw cv cw W (h.wv.grow hg) (h.ww.grow hg) h.dv h.dw h.tv h.tw (by have := h.sv;have := h.mv;omega)
theorem A7u {w : World} {b o : Nat} {zs : List Nat} (h : Wds w b o zs) : Wds w b o (C6 zs):=by rw [A1g];exact h.take _
theorem A6W (b off : Nat) (l : List Nat) (c : Nat) (w0 w : World) (h : Wds w b off l) (hd : Dig W64 l) (hv : val W64 l ≠ 0) (hc : l.length ≤ c) (hcm : c ≤ 17179869180) (hT : Tab w0) (hg0 : A3 w0 w) (hb0 : w0.heap.size ≤ b) :
  Calls Tryz.prog 160 #[.slice (some ⟨b,off,none⟩) l.length c] w fun e w'=>∃ (o' c' : Nat) (zs : List Nat),e = .returned (.slice (some ⟨b,o',none⟩) zs.length c') ∧ (Wds w' b o' zs ∧ Dig W64 zs ∧ Q3 zs ∧ zs.length ≤ c' ∧ c' ≤ 17179869180 ∧ (∃ z,Tz (val W64 l) z ∧ val W64 l = 2 ^ z * val W64 zs) ∧ val W64 zs % 2 = 1 ∧ Oth b w w') ∧ A3 w0 w' :=
 (B3N b off l c w0 w h hd hv (by omega) hc (by omega) hT hg0 hb0).mono fun e w' ⟨o',c',zs,he,⟨k1,k2,k3,k4,k5,k6,k7,k8⟩,k9⟩ =>
  ⟨o',c',C6 zs,he,⟨A7u k1,A0j k2,A3w zs,Nat.le_trans (A1w zs) k4,by omega,by rw [A0M];exact k6,by rw [A0M];exact k7,k8⟩,k9⟩
def A6z (u : World) (bv ov cv : Nat) (lv : List Nat) (bw ow : Nat) (lw : List Nat) (w' : World) (zs : List Nat) : Prop :=
 Wds w' bv ov zs ∧ Dig W64 zs ∧ zs.length ≤ cv ∧ val W64 zs = val W64 lv - val W64 lw ∧ Wds w' bw ow lw ∧ A3 u w'
theorem BinI.sub {u wr : World} {bv ov cv : Nat} {lv : List Nat} {bw ow cw : Nat} {lw : List Nat} {g : Nat} (h : BinI u wr bv ov cv lv bw ow cw lw g) (hlt : val W64 lw < val W64 lv) :
  Calls Tryz.prog 162 #[.slice (some ⟨bv,ov,none⟩) lv.length cv,.slice (some ⟨bw,ow,none⟩) lw.length cw] wr fun e w'=>∃ zs : List Nat,e = .returned (.slice (some ⟨bv,ov,none⟩) zs.length cv) ∧ A6z u bv ov cv lv bw ow lw w' zs:=by
 have hl : lw.length ≤ lv.length:=by
  rcases Nat.lt_or_ge lv.length lw.length with h1 | h1
  ·have := A3r C7 h.dv h.tw h.dw h1;omega
  ·exact h1
 have h1:=h.sv
 have h2:=h.mv
 exact (B0b bv ov bw ow lv lw cv cw u wr h.wv h.ww h.ne h.dv h.dw hl (Nat.le_of_lt hlt) (by omega) h.sv (by omega) h.gr h.uv).mono fun e w' ⟨zs,he,⟨k1,k2,k3,k4,k5⟩,k6⟩ =>
  ⟨C6 zs,he,A7u k1,A0j k3,Nat.le_trans (A1w zs) (by omega),by rw [A0M];exact k4,k5,k6⟩
theorem BinI.down {u wr : World} {bv ov cv : Nat} {lv : List Nat} {bw ow cw : Nat} {lw : List Nat} {g : Nat} (h : BinI u wr bv ov cv lv bw ow cw lw g) (hlt : val W64 lw < val W64 lv) (hT : Tab u) (w' : World) (zs : List Nat) (hs : A6z u bv ov cv lv bw ow lw w' zs) :
  Calls Tryz.prog 160 #[.slice (some ⟨bv,ov,none⟩) zs.length cv] w' fun e w''=>∃ (o' c' : Nat) (z2 : List Nat),e = .returned (.slice (some ⟨bv,o',none⟩) z2.length c') ∧ BinI u w'' bv o' c' z2 bw ow cw lw g ∧ val W64 z2 < val W64 lv:=by
 obtain ⟨k1,k2,k3,k4,k5,k6⟩:=hs
 have hv0 : val W64 zs ≠ 0:=by omega
 refine (A6W bv ov zs cv u w' k1 k2 hv0 k3 h.mv hT k6 h.uv).mono fun e w'' ⟨o',c',z2,he,⟨d1,d2,d3,d4,d5,⟨z,d6,d7⟩,d8,d9⟩,d10⟩=>⟨o',c',z2,he,⟨d1,d9 _ _ _ h.ne.symm k5,h.ne,h.uv,h.uw,d2,h.dw,d3,h.tw,d8,h.aw,?_,d4,h.sw,d5,h.mw,d10⟩,?_⟩
 ·exact B52 h.aw hlt (by rw [← k4];exact d7) h.gc
 ·have hp:=Nat.two_pow_pos z
  have h1 : val W64 z2 ≤ val W64 zs:=by rw [d7];exact Nat.le_mul_of_pos_left _ hp
  have h2 : 0 < val W64 lw:=by have := h.aw;omega
  omega
structure BinS (u wr : World) (b1 : Nat) (z1 : List Nat) (b2 : Nat) (z2 : List Nat) (x y : Nat) : Prop where
 w1 : Wds wr b1 0 z1
 w2 : Wds wr b2 0 z2
 ne : b1 ≠ b2
 u1 : u.heap.size ≤ b1
 u2 : u.heap.size ≤ b2
 d1 : Dig W64 z1
 d2 : Dig W64 z2
 v1 : val W64 z1 = x
 v2 : val W64 z2 = y
 s1 : z1.length ≤ 17179869180
 s2 : z2.length ≤ 17179869180
 gr : A3 u wr
theorem BinS.down1 {u wr : World} {b1 b2 x y : Nat} {z1 z2 : List Nat} (h : BinS u wr b1 z1 b2 z2 x y) (hT : Tab u) (hx : x ≠ 0) :
  Calls Tryz.prog 160 #[.slice (some ⟨b1,0,none⟩) z1.length z1.length] wr fun e w'=>∃ (o' c' : Nat) (zs : List Nat),e = .returned (.slice (some ⟨b1,o',none⟩) zs.length c') ∧ (Wds w' b1 o' zs ∧ Dig W64 zs ∧ Q3 zs ∧ zs.length ≤ c' ∧ c' ≤ 17179869180 ∧ (∃ z,Tz (val W64 z1) z ∧ val W64 z1 = 2 ^ z * val W64 zs) ∧ val W64 zs % 2 = 1 ∧ Oth b1 wr w') ∧ A3 u w' :=
 A6W b1 0 z1 z1.length u wr h.w1 h.d1 (by rw [h.v1];exact hx) (Nat.le_refl _) h.s1 hT h.gr h.u1
theorem BinS.down2 {u wr : World} {b1 b2 x y a b : Nat} {z1 z2 : List Nat} (h : BinS u wr b1 z1 b2 z2 x y) (hT : Tab u) (hy : y ≠ 0) (ha : Tz x a) (hb : Tz y b) (o1 c1 : Nat) (l1 : List Nat) (w' : World)
  (hd : (Wds w' b1 o1 l1 ∧ Dig W64 l1 ∧ Q3 l1 ∧ l1.length ≤ c1 ∧ c1 ≤ 17179869180 ∧ (∃ z,Tz (val W64 z1) z ∧ val W64 z1 = 2 ^ z * val W64 l1) ∧ val W64 l1 % 2 = 1 ∧ Oth b1 wr w') ∧ A3 u w') :
  Calls Tryz.prog 160 #[.slice (some ⟨b2,0,none⟩) z2.length z2.length] w' fun e w''=>∃ (o2 c2 : Nat) (l2 : List Nat) (g : Nat),e = .returned (.slice (some ⟨b2,o2,none⟩) l2.length c2) ∧ BinI u w'' b1 o1 c1 l1 b2 o2 c2 l2 g ∧ Nat.gcd x y = 2 ^ min a b * g:=by
 obtain ⟨⟨k1,k2,k3,k4,k5,⟨z,k6,k7⟩,k8,k9⟩,k10⟩:=hd
 refine (A6W b2 0 z2 z2.length u w' (k9 _ _ _ h.ne.symm h.w2) h.d2 (by rw [h.v2];exact hy) (Nat.le_refl _) h.s2 hT k10 h.u2).mono fun e w'' ⟨o2,c2,l2,he,⟨d1,d2,d3,d4,d5,⟨t,d6,d7⟩,d8,d9⟩,d10⟩ =>
  ⟨o2,c2,l2,Nat.gcd (val W64 l1) (val W64 l2),he,⟨d9 _ _ _ h.ne k1,d1,h.ne,h.u1,h.u2,k2,d2,k3,d3,k8,d8,rfl,k4,d4,k5,d5,d10⟩,?_⟩
 rw [h.v1] at k6 k7
 rw [h.v2] at d6 d7
 rw [ha.inj k6,hb.inj d6]
 exact B6h k7 d7 k8 d8
theorem B3i {x y a g : Nat} (h : Nat.gcd x y = 2 ^ a * g) (hx : x ≠ 0) (d : Nat) (hd : d ≤ a) : bl (g * 2 ^ d) ≤ bl x:=by
 refine N8 ?_
 have h1:=Nat.gcd_le_left y (Nat.pos_of_ne_zero hx)
 have h2 : g * 2 ^ d ≤ g * 2 ^ a:=Nat.mul_le_mul_left _ (Nat.pow_le_pow_right (by omega) hd)
 rw [h,Nat.mul_comm] at h1
 omega
theorem B05 {x y a g : Nat} (h : Nat.gcd x y = 2 ^ a * g) (hx : x ≠ 0) : a < bl x:=by
 have h1:=Nat.gcd_le_left y (Nat.pos_of_ne_zero hx)
 have h2 : Nat.gcd x y ≠ 0:=fun h0=>hx (Nat.eq_zero_of_gcd_eq_zero_left h0)
 rw [h] at h1 h2
 have h3 : g ≠ 0:=fun h0=>h2 (by rw [h0,Nat.mul_zero])
 exact Z6.2 (Nat.le_trans (Nat.le_mul_of_pos_right _ (Nat.pos_of_ne_zero h3)) h1)
theorem A3.sz {w w' : World} (h : A3 w w') : w.heap.size ≤ w'.heap.size:=Below.size h
theorem BinI.grow {u wr W : World} {bv ov cv : Nat} {lv : List Nat} {bw ow cw : Nat} {lw : List Nat} {g : Nat} (h : BinI u wr bv ov cv lv bw ow cw lw g) (hg : A3 wr W) : BinI u W bv ov cv lv bw ow cw lw g :=
 ⟨h.wv.grow hg,h.ww.grow hg,h.ne,h.uv,h.uw,h.dv,h.dw,h.tv,h.tw,h.av,h.aw,h.gc,h.sv,h.sw,h.mv,h.mw,h.gr.trans hg⟩
abbrev WL:=Nat × List Nat
abbrev wlV (x : WL) : Value:=.slice (some ⟨x.1,0,none⟩) x.2.length x.2.length
def WLT (B a : Nat) (x : WL) (W : World) : Prop:=B ≤ x.1 ∧ C4 W x.1 x.2 ∧ Dig W64 x.2 ∧ val W64 x.2 = a ∧ x.2.length ≤ 17179869180
theorem WLT.grow {B a : Nat} {x : WL} {W W' : World} (hg : A3 W W') (h : WLT B a x W) : WLT B a x W':=⟨h.1,h.2.1.grow hg,h.2.2⟩
theorem WLT.sz {B a : Nat} {x : WL} {W : World} (h : WLT B a x W) : x.1 + 1 ≤ W.heap.size:=h.2.1.lt
theorem A86 (a : Nat) (ha : bl a ≤ 1099511627520) (B : Nat) (w : World) (hB : B ≤ w.heap.size) : Calls Tryz.prog 158 #[A6 a] w (I1 (fun x : WL=>wlV x) (WLT B a) w) :=
 (B6u a ha w).mono fun e w' ⟨b,zs,he,⟨h1,h2,h3,h4,h5⟩,hg⟩=>⟨(b,zs),he,⟨Nat.le_trans hB h1,h2,h3,h4,h5⟩,hg⟩
theorem A7A (x y : Nat) (hx : x ≠ 0) (hy : y ≠ 0) (hbx : bl x ≤ 1099511627520) (hby : bl y ≤ 1099511627520) (w : World) (hT : Tab w) :
  Calls Tryz.prog 122 #[A6 x,A6 y] w fun e w'=>e = .returned (A6 (Nat.gcd x y)) ∧ A3 w w':=by
 have Hw1:=Lib.hid (A86 x hbx)
 have Hw2:=Lib.hid (A86 y hby)
 have HT:=Lib.hid hT
 have Hx:=Lib.hid hx
 have Hy:=Lib.hid hy
 have Hbx:=Lib.hid hbx
 clear hT hx hy hbx hby
 go_enter Tryz.func122,Tryz.ntmps122
 refine en3 ?_
 intro u hG b4 b3 b2 hB hF
 refine wp_seq ?_
 obtain ⟨u0,hu0⟩ : ∃ x,x = u:=⟨_,rfl⟩
 have hB0 : Bx u0 _:=hu0 ▸ hB
 have hG0 : A3 w u0:=hu0 ▸ hG
 have hgu0 : A3 u0 u:=hu0 ▸ A3.refl u
 clear hu0
 refine rdC A5 [] [(0,0),(0,2),(1,1),(1,3),(0,4)] hB hG fun K L hN hL=>?_
 refine gs ?_
 refine gxd (X:=WL) (fun x=>wlV x) (WLT u0.heap.size x) (fun _ _ _ hg h=>h.grow hg) (fun x11=>?_) (C:=by (rintro v ⟨hgu,hB,hG,-⟩;exact Hw1.out _ _ (hgu0.trans hgu).sz))
 refine gxd (X:=WL) (fun x=>wlV x) (WLT (x11.1 + 1) y) (fun _ _ _ hg h=>h.grow hg) (fun x13=>?_) (C:=by (rintro v ⟨⟨hgu,hB,hG,-⟩,hx11⟩;exact Hw2.out _ _ hx11.sz))
 refine gs ?_
 refine geC hL ?_
 clear hB hG hL L
 rintro u ⟨⟨⟨hgu,hB,hG,-⟩,hx11⟩,hx13⟩
 have hgr:=hgu0.trans hgu
 clear hgu0
 clear hgu
 refine gtT ?_
 clear hN K
 obtain ⟨b11,z1⟩:=x11
 obtain ⟨b13,z2⟩:=x13
 have hS : BinS u0 u b11 z1 b13 z2 x y:=by
  obtain ⟨p1,p2,p3,p4,p5⟩:=hx11
  obtain ⟨q1,q2,q3,q4,q5⟩:=hx13
  simp only at p1 p2 p3 p4 p5 q1 q2 q3 q4 q5
  exact ⟨p2.wds,q2.wds,by omega,p1,by omega,p3,q3,p4,q4,p5,q5,hgr⟩
 have HS:=Lib.hid hS
 have HB0:=Lib.hid hB0
 have HG0:=Lib.hid hG0
 have hz1:=A4g b11 0 z1 z1.length hS.d1 (by rw [hS.v1];exact Hx.out) (by have := hS.s1;omega) u hS.w1 (HT.out.grow hG)
 have hz2:=A4g b13 0 z2 z2.length hS.d2 (by rw [hS.v2];exact Hy.out) (by have := hS.s2;omega) u hS.w2 (HT.out.grow hG)
 rw [hS.v1] at hz1
 rw [hS.v2] at hz2
 have Hz1:=Lib.hid hz1
 have Hz2:=Lib.hid hz2
 clear hS hB0 hG0 hz1 hz2 hx11 hx13 hgr
 simp only [wlV]
 refine wp_seq ?_
 refine M9 ?_
 intro K hN
 go_wp2_with (first
  | (go_at_call_of 159 b11;((with_reducible refine (Hz1.out).mono ?_);rintro e wz ⟨a,rfl,ha,-,hwz⟩;have hwz:=hwz.symm;subst hwz;have Ha:=Lib.hid ha;clear ha))
  | (go_at_call_of 159 b13;((with_reducible refine (Hz2.out).mono ?_);rintro e wz ⟨b,rfl,hb,-,hwz⟩;have hwz:=hwz.symm;subst hwz;have Hb:=Lib.hid hb;clear hb;obtain ⟨t,ht⟩ : ∃ t : Nat,t = min a b:=⟨_,rfl⟩;have hmin : min (a : Int) (b : Int) = (t : Int):=(by omega);have Ht:=Lib.hid ht;clear ht)))
 refine NoK.norm (hN _ _ ?_)
 clear hN K hmin
 have Hd1:=Lib.hid (HS.out.down1 (HT.out.grow HG0.out) Hx.out)
 have Hd2:=Lib.hid (HS.out.down2 (HT.out.grow HG0.out) Hy.out Ha.out Hb.out)
 clear Hz1 Hz2 HS
 refine A4 ?_
 refine wp_seq ?_
 refine M9 ?_
 intro K hN
 go_wp2_with (first
  | (go_at_call_of 160 b11;((with_reducible refine (Hd1.out).mono ?_);rintro e wd ⟨o1,c1,l1,rfl,hd⟩;have Hdd:=Lib.hid hd;clear hd))
  | (go_at_call_of 160 b13;((with_reducible refine (Hd2.out o1 c1 l1 wd Hdd.out).mono ?_);rintro e we ⟨o2,c2,l2,g,rfl,hI,hgc⟩;have HI:=Lib.hid hI;have Hgc:=Lib.hid hgc;clear hI hgc)))
 refine NoK.norm (hN _ _ ?_)
 clear hN K Hd1 Hd2 Hdd hB hG
 rw [← Ht.out] at Hgc
 refine A4 ?_
 refine wp_seq ?_
 refine wp_block ?_
 go_loopg [5,6] (val W64 l1 + val W64 l2) (fun k s5 s6 wr=>∃ (bv ov cv : Nat) (lv : List Nat) (bw ow cw : Nat) (lw : List Nat),s5 = .slice (some ⟨bv,ov,none⟩) lv.length cv ∧ s6 = .slice (some ⟨bw,ow,none⟩) lw.length cw ∧ BinI u0 wr bv ov cv lv bw ow cw lw g ∧ k = val W64 lv + val W64 lw)
 case atStart=>exact ⟨b11,o1,c1,l1,b13,o2,c2,l2,rfl,rfl,HI.out,rfl⟩
 case round =>
  clear HI
  obtain ⟨bv,ov,cv,lv,bw,ow,cw,lw,rfl,rfl,hI,hgk⟩:=hrel
  obtain ⟨u,rfl⟩ : ∃ x,x = wr:=⟨_,rfl⟩
  have hB:=HB0.out.grow hI.gr
  have hG:=HG0.out.trans hI.gr
  have HI:=Lib.hid hI
  have Hgk:=Lib.hid hgk
  clear hI hgk
  rcases Nat.lt_trichotomy (val W64 lv) (val W64 lw) with hlt | heq | hgt
  ·have hcm:=HI.out.cmp
   rw [O6 hlt] at hcm
   have Hcm:=Lib.hid hcm
   have Hsub:=Lib.hid (fun W hg=>(HI.out.swap.grow (W:=W) hg).sub hlt)
   have Hdn:=Lib.hid (HI.out.swap.down hlt (HT.out.grow HG0.out))
   clear hcm
   refine wp_block ?_
   refine wp_seq (rsE A5 [0,0,1,0] hB hG fun L hL=>?_)
   refine gs ?_
   refine gmd (C:=fun v ⟨hgu,hB,hG,_⟩=>Hcm.out _ hgu) ?_
   refine gs ?_
   refine geT hL ?_
   clear hB hG hL L
   rintro u ⟨hgu,hB,hG,-⟩
   have hgc:=hgu
   clear hgu
   refine wp_seq ?_
   refine r0T ?_
   refine wp_cond_false (rfl) ?_
   refine wp_skip ?_
   refine A4 ?_
   refine wp_seq ?_
   refine r0T ?_
   refine wp_cond_true (rfl) ?_
   refine r0N ?_
   refine M9 ?_
   intro K hN
   go_wp2_with (first
    | (go_at_call 162;((with_reducible refine (Hsub.out _ hgc).mono ?_);rintro e ws ⟨zs,rfl,hs⟩;have Hs:=Lib.hid hs;clear hs))
    | (go_at_call 160;((with_reducible refine (Hdn.out ws zs Hs.out).mono ?_);rintro e wt ⟨o3,c3,z3,rfl,hI2,hlt2⟩;have HI2:=Lib.hid hI2;clear hI2)))
   refine NoK.norm (hN _ _ ?_)
   clear hN K
   refine F0 ?_
   refine A4 ?_
   go_step
   go_roundg (val W64 z3 + val W64 lv)
   case measure=>rw [Hgk.out];omega
   case rel=>exact ⟨bw,o3,c3,z3,bv,ov,cv,lv,rfl,rfl,HI2.out,rfl⟩
  ·have hcm:=HI.out.cmp
   rw [A0v heq] at hcm
   have Hcm:=Lib.hid hcm
   have hgv : g = val W64 lv:=by rw [← HI.out.gc,← heq,Nat.gcd_self]
   have hnum : ∀ W,A3 u W → Calls Tryz.prog 163 #[.slice (some ⟨bv,ov,none⟩) lv.length cv] W fun e w'=>e = .returned (A6 g) ∧ A3 W w':=fun W hg=>by
    rw [hgv]
    exact B5y bv ov lv cv HI.out.dv (by have := HI.out.sv;have := HI.out.mv;omega) W (HI.out.wv.grow hg)
   have Hnum:=Lib.hid hnum
   clear hcm hgv hnum heq
   refine wp_block ?_
   refine wp_seq (rsE A5 [0,0,1,0] hB hG fun L hL=>?_)
   refine gs ?_
   refine gmd (C:=fun v ⟨hgu,hB,hG,_⟩=>Hcm.out _ hgu) ?_
   refine gs ?_
   refine geT hL ?_
   clear hB hG hL L
   rintro u ⟨hgu,hB,hG,-⟩
   have hgc:=hgu
   clear hgu
   refine wp_seq ?_
   refine r0T ?_
   refine wp_cond_true (rfl) ?_
   refine wp_exit ?_
   refine D7 ?_
   refine B0Q (by decide) ?_
   refine D7 ?_
   refine G8 ?_
   refine A4 ?_
   refine wp_seq (rsC A5 [0,1,2] hB hG fun K L hN hL=>?_)
   refine gs ?_
   refine gmd (C:=fun v ⟨hgu,hB,hG,_⟩=>Hnum.out _ (hgc.trans hgu)) ?_
   refine gaa (I8 _ _ _ _ _) fun b9 hb9 hn9=>?_
   replace hF:=hF.n1 [] hB hG hb9 hn9
   refine geC hL ?_
   clear hB hG hL L
   rintro u ⟨⟨hgu,hB,hG,-⟩,h9⟩
   replace hB:=hB.cons' h9
   clear h9
   clear hgc Hcm
   clear hb9 hn9
   clear hgu
   refine gtT ?_
   clear hN K
   refine st hB hF hG 0 0 [_,_] ?_
   clear hB hG
   intro u hB hG
   refine wp_seq ?_
   refine wp_block ?_
   have htl:=B05 Hgc.out Hx.out
   have htm : t ≤ 1099511627520:=Nat.le_trans (Nat.le_of_lt htl) Hbx.out
   clear htl
   go_loopw [7] (fun s wr=>∃ (d : Nat) (q : Int),s = .int .i64 q ∧ ((d : Int) + max q 0 = t ∧ -65536 ≤ q) ∧ Bx wr [(b9,35,#[.int .u64 (B3 (g * 2 ^ d)),.string (B1 (g * 2 ^ d))]),(b2,35,#[.int .u64 (B3 x),.string (B1 x)]),(b3,35,#[.int .u64 (B3 y),.string (B1 y)]),(b4,35,#[.int .u64 0,.string ⟨#[]⟩])] ∧ A3 w wr) (fun s _=>(intOf s).toNat)
   case atStart=>exact ⟨0,t,rfl,⟨by omega,by omega⟩,by rw [Nat.pow_zero,Nat.mul_one];exact hB,hG⟩
   case round =>
    clear hB hG
    obtain ⟨d,q,rfl,⟨hq1,hq2⟩,hB,hG⟩:=hrel
    obtain ⟨u,rfl⟩ : ∃ x,x = wr:=⟨_,rfl⟩
    by_cases hq : 0 < q
    ·obtain ⟨sh,hsh⟩ : ∃ sh : Nat,(sh : Int) = min q 65536:=⟨(min q 65536).toNat,by omega⟩
     have f1 : min q 65536 = (sh : Int):=hsh.symm
     have hsl:=B3i Hgc.out Hx.out d (by omega)
     obtain ⟨V0,hV0⟩ : ∃ V,V = g * 2 ^ d:=⟨_,rfl⟩
     obtain ⟨V1,hV1⟩ : ∃ V,V = g * 2 ^ (d + sh):=⟨_,rfl⟩
     have hshift : ∀ W,Calls Tryz.prog 164 #[A6 V0,.int .i64 sh] W fun e w'=>e = .returned (A6 V1) ∧ A3 W w':=fun W=>by
      have := B4W (g * 2 ^ d) sh (by have := Hbx.out;omega) (by omega) W
      rw [Nat.mul_assoc,← Nat.pow_add,← hV0,← hV1] at this
      exact this
     rw [← hV0] at hB
     have Hshift:=Lib.hid hshift
     have HV1:=Lib.hid hV1
     have Hsh:=Lib.hid hsh
     clear hshift hV0 hV1 hsl hsh
     have c1 : decide (0 < q) = true:=by simpa using hq
     refine wp_seq ?_
     refine r0T ?_
     refine wp_cond_true (rfl) ?_
     refine wp_skip ?_
     refine A4 ?_
     refine wp_seq ?_
     refine wp_block ?_
     refine rsC A5 [0,0,0,1] hB hG fun K L hN hL=>?_
     refine gs ?_
     refine gmw (C:=fun v=>Hshift.out _) ?_
     refine geC hL ?_
     clear hB hG hL L
     rintro u ⟨-,hB,hG,-⟩
     refine gt ?_
     clear hN K
     refine st hB hF hG 0 0 [_,_] ?_
     clear hB hG
     intro u hB hG
     refine F0 ?_
     refine A4 ?_
     refine r0E ?_
     refine A4 ?_
     go_roundw
     case rel=>exact ⟨d + sh,q - 65536,by go_num,⟨by have := Hsh.out;omega,by omega⟩,by rw [← HV1.out];exact hB,hG⟩
     case measure=>simp [intOf];omega
    ·have c1 : decide (0 < q) = false:=by simpa using hq
     replace hq:=Int.not_lt.1 hq
     obtain rfl : t = d:=by omega
     refine wp_seq ?_
     refine r0T ?_
     refine wp_cond_false (rfl) ?_
     refine wp_exit ?_
     refine D7 ?_
     refine D7 ?_
     refine G8 ?_
     refine A4 ?_
     refine r0T ?_
     refine st hB hF hG 3 0 [_,_] ?_
     clear hB hG
     intro u hB hG
     refine rt Tryz.results122 ?_
     refine And.intro ?_ hG
     rw [Hgc.out,Nat.mul_comm]
  ·have hcm:=HI.out.cmp
   rw [W6 hgt] at hcm
   have Hcm:=Lib.hid hcm
   have Hsub:=Lib.hid (fun W hg=>(HI.out.grow (W:=W) hg).sub hgt)
   have Hdn:=Lib.hid (HI.out.down hgt (HT.out.grow HG0.out))
   clear hcm
   refine wp_block ?_
   refine wp_seq (rsE A5 [0,0,1,0] hB hG fun L hL=>?_)
   refine gs ?_
   refine gmd (C:=fun v ⟨hgu,hB,hG,_⟩=>Hcm.out _ hgu) ?_
   refine gs ?_
   refine geT hL ?_
   clear hB hG hL L
   rintro u ⟨hgu,hB,hG,-⟩
   have hgc:=hgu
   clear hgu
   refine wp_seq ?_
   refine r0T ?_
   refine wp_cond_false (rfl) ?_
   refine wp_skip ?_
   refine A4 ?_
   refine wp_seq ?_
   refine r0T ?_
   refine wp_cond_false (rfl) ?_
   refine wp_skip ?_
   refine A4 ?_
   refine M9 ?_
   intro K hN
   go_wp2_with (first
    | (go_at_call 162;((with_reducible refine (Hsub.out _ hgc).mono ?_);rintro e ws ⟨zs,rfl,hs⟩;have Hs:=Lib.hid hs;clear hs))
    | (go_at_call 160;((with_reducible refine (Hdn.out ws zs Hs.out).mono ?_);rintro e wt ⟨o3,c3,z3,rfl,hI2,hlt2⟩;have HI2:=Lib.hid hI2;clear hI2)))
   refine NoK.norm (hN _ _ ?_)
   clear hN K
   refine F0 ?_
   refine A4 ?_
   go_step
   go_roundg (val W64 z3 + val W64 lw)
   case measure=>rw [Hgk.out];omega
   case rel=>exact ⟨bv,o3,c3,z3,bw,ow,cw,lw,rfl,rfl,HI2.out,rfl⟩
end Go.Proofs.YtlkniebmjdoopaaGreatDoor
