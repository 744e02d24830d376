import Derived.Test.YtgpglgbcobeogaaGreatDoorW42
set_option linter.unusedSimpArgs false
set_option linter.unusedVariables false
set_option maxHeartbeats 4000000
set_option maxRecDepth 100000
namespace Go.Proofs.YtgpglgbcobeogaaGreatDoor
open Go Go.RowKit
abbrev Tr:=Value×Value×Value
def trL(t:Tr):List Value:=[t.1,t.2.1,t.2.2]
def tr0:Tr:=(.bool false,.slice none 0 0,.slice none 0 0)
def trZ(p:Az):Tr:=(.bool (D6 (C1 0).num),.slice p.1.1 (ln (C1 0).num.natAbs) p.1.2,.slice p.2.1 (ln (C1 0).den) p.2.2)
def A0R(ps:List Az)(n:Nat):List Tr:=ps.map trZ++List.replicate (n-ps.length) tr0
theorem A6m{ps:List Az}{n:Nat}(h:ps.length≤n):(A0R ps n).length=n:=by unfold A0R;simp;omega
theorem B5W{ps:List Az}{n:Nat}(h:ps.length<n)(p:Az):(A0R ps n).set ps.length (trZ p)=A0R (ps++[p]) n:=by
 unfold A0R;rw[show n-ps.length=(n-(ps++[p]).length)+1 by simp;omega,List.replicate_succ,List.set_append_right _ _ (by simp)];simp
theorem B1g{ps:List Az}{n:Nat}(h:ps.length=n):(A0R ps n).flatMap trL=(ps.map fun p=>((p,C1 0):Zr)).flatMap zrL:=by
 unfold A0R;rw[h,B9u,List.replicate_zero,List.append_nil,List.flatMap_map,List.flatMap_map];rfl
theorem B35:(Tryz.prog.info? 33).map (fun i=>(i.zero,i.size,i.bytes))=some (some (.agg (trL tr0).toArray),3,56):=by kernel_rfl
theorem B4F(n:Nat):madeCells (Value.agg (trL tr0).toArray).cells (n*3)=((List.replicate n tr0).flatMap trL).toArray:=by
 unfold madeCells;have hl:=A2Y (enc:=trL) (size:=3) (fun _=>rfl) (List.replicate n tr0);rw[B9t]at hl;refine Array.ext (by rw[show(((List.replicate n tr0).flatMap trL).toArray).size=n*3 from hl];simp) fun i h1 h2=>?_;have h1':i<n*3:=by simpa using h1
 have hg:=A5y (enc:=trL) (size:=3) (fun _=>rfl) (List.replicate n tr0) (i/3) (i%3) (by rw[B9t];omega) (by omega);rw[show i/3*3+i%3=i by omega,List.getElem_replicate]at hg;have h3:((List.replicate n tr0).flatMap trL)[i]?=some ((List.replicate n tr0).flatMap trL)[i]:=B9w _;rw[h3]at hg;have h4:(trL tr0)[i%3]?=some ((trL tr0)[i%3]'(by show i%3<3;omega)):=B9w _;rw[h4]at hg;injection hg with hg;simp only[List.getElem_toArray,Value.cells,Array.getElem_ofFn];rw[hg];simp[show(trL tr0).length=3 from rfl];rw[h4];rfl
theorem B5Q(n:Nat)(hn:n≤1048576)(x:Int)(hx:x=n)(W:World):(Instr.makeSlice 25 (.int .i64 x) (.int .i64 x)).run Tryz.prog W =
  .ok (.slice (some ⟨W.heap.size,0,none⟩) n n) (W.alloc (.cells ((List.replicate n tr0).flatMap trL).toArray 33)):=by
 obtain⟨i0,hi0,hz0,hz1,hz2⟩:=B9r B35;have hr:=run_make (P:=Tryz.prog) W 25 33 i0 (.agg (trL tr0).toArray) Tryz.underlying25 hi0 hz0 .i64 .i64 n n (by omega) (by omega) (by rw[hz2];omega) (by omega);rw[hx];rw[hr,hz1];simp only[Int.toNat_natCast];rw[B4F]
theorem B7c{u v:World}{B n:Nat}(hB:B≤u.heap.size)(hn:n≤1048576)(hv:u.alloc (.cells ((List.replicate n tr0).flatMap trL).toArray 33)=v):v.ownsRow B 33 3 (.slice (some ⟨u.heap.size,0,none⟩) n n) n ((A0R [] n).flatMap trL):=by
 subst hv;have hl:=A2Y (enc:=trL) (size:=3) (fun _=>rfl) (List.replicate n tr0);rw[B9t]at hl;have h:=World.ownsRow_lit (base:=B) (e:=33) (size:=3) u ((List.replicate n tr0).flatMap trL).toArray n hB (by unfold maxLen;omega) (by simp only[List.size_toArray];exact hl)
 simpa [A0R]using h
theorem B0w{α:Type}{enc:α→List Value}{B:Nat}{e:TypeId}{g cap n:Nat}(he:∀x,(enc x).length=3){u:World}{ps:List α}(h:u.ownsRow B e 3 (.slice (some ⟨g,0,none⟩) n cap) n (ps.flatMap enc))(hn:n=ps.length)(k:Nat)(hk:k<ps.length) :
  ∃y0 y1 y2,u.cell? ⟨g,k*3,none⟩=some y0∧u.cell? ⟨g,k*3+1,none⟩=some y1∧u.cell? ⟨g,k*3+2,none⟩=some y2∧∀j,u.frozen? ⟨g,j,none⟩=false:=by
 have hl:=he ps[k];have h0:=R9 he h hn k 0 hk (by omega);have h1:=R9 he h hn k 1 hk (by omega);have h2:=R9 he h hn k 2 hk (by omega);rw[B9w (by omega)]at h0 h1 h2;exact⟨_,_,_,h0,h1,h2,fun j=>h.frozenAt j⟩
theorem I1.row{u u':World}{ps:List Zr}{B size n cap g i:Nat}{xs vs:List Value}(hl:I1 u ps)(h:u.ownsRow B 33 size (.slice (some ⟨g,0,none⟩) n cap) n xs)(hu:C2 u g i vs=u'):I1 u' ps:=by
 obtain⟨h0,h1|⟨g',cap',cur,e1,hb,hh,-⟩⟩:=h
 ·exact absurd h1.1 (by simp)
 ·obtain rfl:g=g':=by cases e1;rfl
  exact hl.put (bl:=[(g,33,cur)]) (Bx.cons hh (Bx.nil u)) 0 rfl (by decide) i vs hu
section
variable {u w':World} {B:Nat} {e:TypeId} {size n:Nat} {v:Value} {xs:List Value} {o:Obj}
theorem A4L{b:Nat}{cs:Array Value}{T:TypeId}{fr:Nat×Nat}(hb:u.heap[b]?=some (.cells cs T fr))(h:u.ownsRow B e size v n xs)(ht:e≠T)(hg:(u.alloc o).grownBy w' v.ownBlock):w'.heap[b]?=u.heap[b]?:=by
 have hlt:=J3 hb;have h2:(u.alloc o).heap[b]?=u.heap[b]?:=(A4.alloc u o).block b hlt;refine(hg.block b (by rw[I9];omega) fun hxe=>?_).trans h2;obtain⟨_,h|⟨g,cap,cur,rfl,hb',hh,hn,hc',hs,ht2⟩⟩:=h
 ·rw[h.1]at hxe;cases hxe
 ·have h1:b=g:=B9M hxe;rw[h1,hh]at hb;injection hb with hb;injection hb with _ h3 _;exact ht h3
structure Lzt(u:World)(A:Option Addr)(l:List Rat):Prop where
 lz:Lz u A l
 ty:∀b off,A=some ⟨b,off,none⟩→∃cs fr,u.heap[b]?=some (.cells cs 33 fr)
structure Lqt(u:World)(A:Option Addr)(l:List Rat):Prop where
 lq:Lq u A l
 ty:∀b off,A=some ⟨b,off,none⟩→∃cs fr,u.heap[b]?=some (.cells cs 48 fr)
theorem Lzt.grow{u u':World}{A:Option Addr}{l:List Rat}(h:Lzt u A l)(hg:A4 u u'):Lzt u' A l:=⟨h.lz.grow hg,fun b off hA=>by
 obtain⟨cs,fr,hb⟩:=h.ty b off hA
 exact⟨cs,fr,(hg.block b (J3 hb)).trans hb⟩⟩
theorem Lqt.grow{u u':World}{A:Option Addr}{l:List Rat}(h:Lqt u A l)(hg:A4 u u'):Lqt u' A l:=⟨h.lq.grow hg,fun b off hA=>by
 obtain⟨cs,fr,hb⟩:=h.ty b off hA
 exact⟨cs,fr,(hg.block b (J3 hb)).trans hb⟩⟩
theorem cell_of_heap{u u':World}{b:Nat}(h:u'.heap[b]?=u.heap[b]?)(off:Nat):u'.cell? ⟨b,off,none⟩=u.cell? ⟨b,off,none⟩:=by
 unfold World.cell?;rw[h]
theorem Lzt.stay{A:Option Addr}{l:List Rat}(hl:Lzt u A l)(h:u.ownsRow B e size v n xs)(h1:e≠33)(h2:e≠193)(hg:(u.alloc o).grownBy w' v.ownBlock):Lzt w' A l:=by
 refine⟨fun hne=>?_,fun b off hA=>?_⟩
 ·obtain⟨b,off,eA,hb,hc⟩:=hl.lz hne;obtain⟨cs,fr,hty⟩:=hl.ty b off eA;have hs:=A4L hty h h1 hg;refine⟨b,off,eA,J3 (hs.trans hty),fun i hi=>?_⟩;obtain⟨p,g1,g2,g3,g4⟩:=hc i hi;exact⟨p,⟨g1.1.own h h2 hg,g1.2.own h h2 hg⟩,(cell_of_heap hs _).trans g2,(cell_of_heap hs _).trans g3,(cell_of_heap hs _).trans g4⟩
 ·obtain⟨cs,fr,hty⟩:=hl.ty b off hA;exact⟨cs,fr,(A4L hty h h1 hg).trans hty⟩
theorem Lqt.stay{A:Option Addr}{l:List Rat}(hl:Lqt u A l)(h:u.ownsRow B e size v n xs)(h1:e≠48)(hg:(u.alloc o).grownBy w' v.ownBlock):Lqt w' A l:=by
 refine⟨fun hne=>?_,fun b off hA=>?_⟩
 ·obtain⟨b,off,eA,hb,hc⟩:=hl.lq hne;obtain⟨cs,fr,hty⟩:=hl.ty b off eA;have hs:=A4L hty h h1 hg;exact⟨b,off,eA,J3 (hs.trans hty),fun i q hi j v hj=>(cell_of_heap hs _).trans (hc i q hi j v hj)⟩
 ·obtain⟨cs,fr,hty⟩:=hl.ty b off hA;exact⟨cs,fr,(A4L hty h h1 hg).trans hty⟩
end
theorem Lzt.put{u u':World}{A:Option Addr}{l:List Rat}(h:Lzt u A l){bl:List (Nat×TypeId×Array Value)}(hB:Bx u bl)(k:Nat){b:Nat}{t:TypeId}{cs:Array Value}(hk:bl[k]?=some (b,t,cs))(ht1:t≠33)(ht2:t≠193)(i:Nat)(vs:List Value)(hu:C2 u b i vs=u'):Lzt u' A l:=by
 have hb:Blk u b t cs:=hB _ (B9X hk);have hg:u.grownBy u' (some b):=hu ▸ V6 b vs i u;have key:∀(b':Nat) (cs':Array Value) (fr:Nat×Nat),u.heap[b']?=some (Obj.cells cs' 33 fr)→u'.heap[b']?=u.heap[b']?:=fun b' cs' fr h'=>hg.block b' (J3 h') fun e=>by
  have e:=B9M e;subst e;unfold Blk at hb;rw[hb]at h';injection h' with h';injection h' with _ h3 _;exact ht1 h3
 refine⟨fun hne=>?_,fun b' off hA=>?_⟩
 ·obtain⟨b',off,eA,hb',hc⟩:=h.lz hne;obtain⟨cs',fr,hty⟩:=h.ty b' off eA;have hs:=key b' cs' fr hty;refine⟨b',off,eA,J3 (hs.trans hty),fun j hj=>?_⟩;obtain⟨p,g1,g2,g3,g4⟩:=hc j hj;exact⟨p,⟨g1.1.put hB k hk ht2 i vs hu,g1.2.put hB k hk ht2 i vs hu⟩,(cell_of_heap hs _).trans g2,(cell_of_heap hs _).trans g3,(cell_of_heap hs _).trans g4⟩
 ·obtain⟨cs',fr,hty⟩:=h.ty b' off hA;exact⟨cs',fr,(key b' cs' fr hty).trans hty⟩
theorem B1y{u:World}{B n:Nat}{v:Value}{ps:List Zr}(h:u.ownsRow B 33 3 v n (ps.flatMap zrL))(ha:I1 u ps):∃A c,v = .slice A n c∧(0<n→∃g,A=some ⟨g,0,none⟩)∧n≤c∧Lzt u A (ps.map (·.2))∧n=ps.length:=by
 obtain⟨A,c,e1,-,-,hL,hk⟩:=A3n h ha;obtain⟨_,h|⟨g,cap,cur,rfl,hb,hh,hn',hc,hs,ht⟩⟩:=h
 ·obtain⟨rfl,h0⟩:=h;cases e1;exact⟨none,0,rfl,fun h=>by omega,B9G _,⟨hL,fun b off hA=>by cases hA⟩,hk⟩
 ·cases e1;exact⟨_,_,rfl,fun _=>⟨g,rfl⟩,hn',⟨hL,fun b off hA=>by cases hA;exact⟨cur,(0,0),hh⟩⟩,hk⟩
theorem A3D{u:World}{B n:Nat}{v:Value}{l:List Rat}(h:u.ownsRow B 48 5 v n (l.flatMap qL)):∃A c,v = .slice A n c∧Lqt u A l∧n=l.length:=by
 obtain⟨A,c,e1,-,-,hL,hk⟩:=K9 h;obtain⟨_,h|⟨g,cap,cur,rfl,hb,hh,hn',hc,hs,ht⟩⟩:=h
 ·obtain⟨rfl,h0⟩:=h;cases e1;exact⟨none,0,rfl,⟨hL,fun b off hA=>by cases hA⟩,hk⟩
 ·cases e1;exact⟨_,_,rfl,⟨hL,fun b off hA=>by cases hA;exact⟨cur,(0,0),hh⟩⟩,hk⟩
def A2t:List (List Rat):=[[C1 1],[C1 1]]
def knY:List Rat:=[C1 3,C1 1]
def knG:List (List Rat):=J9 A2t 2 1
def knP:List Rat:=I0 A2t knY 2 1
def knF(k:Nat):List Rat:=A0b knG knP (E6 1 k) 1
def knB(k:Nat):List Rat:=A0V knG (E6 1 k) 1
def knL(k:Nat):List Lm:=Y9 knG knP (knF k) (knB k) (E6 1 k) 1 1
theorem B5x:N3 A2t knY 2 1=I6 4 1:=by decide +kernel
theorem B7t:(C9 2 1 (F0 A2t,[]) 1).2.length=1:=by decide +kernel
theorem B20:I5 (knF 2) (knB 2) 1 (C1 2)=[I6 1 1]:=by decide +kernel
theorem A6S:H3 (C1 2) (knL 2)=true∧H3 (C1 2) (knL 0)=false∧H3 (C1 2) (knL 1)=false:=by decide +kernel
theorem B7j:∀k,k<3→(1≤(F5 (E6 1 k) 1).length→(C9 (F5 (E6 1 k) 1).length ((F5 (E6 1 k) 1).length+1) (F0 (aug (X4 knG (F5 (E6 1 k) 1)) (W4 knP (F5 (E6 1 k) 1)) (F5 (E6 1 k) 1).length),[]) ((F5 (E6 1 k) 1).length+1)).2=List.range (F5 (E6 1 k) 1).length):=by decide +kernel
theorem B8g:∀k,k<3→(1≤(F5 (E6 1 k) 1).length→(C9 (F5 (E6 1 k) 1).length ((F5 (E6 1 k) 1).length+1) (F0 (aug (X4 knG (F5 (E6 1 k) 1)) (V7 (E6 1 k) (F5 (E6 1 k) 1)) (F5 (E6 1 k) 1).length),[]) ((F5 (E6 1 k) 1).length+1)).2=List.range (F5 (E6 1 k) 1).length):=by decide +kernel
theorem A5q:∀k,k<3→(knF k).length=1∧(knB k).length=1∧(knL k).length≤1000∧qs (gq (knF k) 0)≤50∧qs (gq (knB k) 0)≤50∧(knL k).all (fun x=>decide (qs x.1≤50)&&decide (qs x.2≤50))=true∧(E6 1 k).length=1 ∧ -1≤gi (E6 1 k) 0∧gi (E6 1 k) 0≤1:=by decide +kernel
theorem A6t:knG.length=1∧(knG.all fun r=>decide (r.length=1))=true∧knP.length=1∧qs (gq (B7 knG 0) 0)≤50∧qs (gq knP 0)≤50∧qs (gq (B7 A2t 0) 0)≤50∧qs (gq (B7 A2t 1) 0)≤50∧qs (gq knY 0)≤50∧qs (gq knY 1)≤50∧qs (C1 2)≤50:=by decide +kernel
theorem B5B(w:World)(rs:List Rq)(h:∀r∈rs,Lq w r.1 r.2.2):Lrq (w.alloc (.cells (rs.map fun r=>Value.slice r.1 r.2.2.length r.2.1).toArray 35)) (some ⟨w.heap.size,0,none⟩) rs:=fun _ =>
 ⟨w.heap.size,0,rfl,by rw[I9];omega,fun i r hi=>⟨by
  rw[Nat.zero_add,Blk.cell (Blk.new w 35 _) i]
  simp[hi],(h r (B9X hi)).grow (A4.alloc _ _)⟩⟩
theorem A7g(n d:Int)(h0:0≤n)(h1:n≤4)(h2:d=1)(hz:qs (I6 n d)≤10)(W:World):Calls Tryz.prog 52 #[qV (I6 n d),.int .i64 n,.int .i64 d] W fun e w'=>e = .returned (.bool true)∧A4 W w' :=
 B39 n d (by omega) (by omega) (by omega) (by omega) (by omega) (B9Y hz (by unfold LIM;omega)) W
theorem B5F(k:Nat)(hk:k<3):A1q 1 knG knP (E6 1 k) (knF k) (knB k) (knL k):=by
 obtain⟨h1,h2,h3,h4,h5,h6,h7,h8,h9⟩:=A5q k hk;obtain⟨g1,g2,g3,g4,g5,-⟩:=A6t;have e0:∀i,i<1→i=0:=fun i hi=>by omega
 exact B0H 1 (by omega) (by omega) knG knP (E6 1 k) g1 (fun r hr=>by
  have:=List.all_eq_true.1 g2 r hr
  simpa using this) g3 h7 (fun i hi=>by rw[e0 i hi];exact⟨h8,h9⟩) 50 (by omega) (fun i hi j hj=>by rw[e0 i hi,e0 j hj];exact g4) (fun i hi=>by rw[e0 i hi];exact g5) (by unfold BIG;omega) (B7j k hk) (B8g k hk)
theorem B3s(A Y:Option Addr)(x y:Ax)(W:World)(h:Lrq W A [(x.1,x.2,[C1 1]),(y.1,y.2,[C1 1])])(h2:Lq W Y knY)(HT:Tab W):Calls Tryz.prog 35 #[.slice A 2 2,.slice Y 2 2] W fun e w'=>e = .returned (.tuple #[qV (I6 4 1),.int .i64 0])∧A4 W w':=by
 obtain⟨-,-,-,-,-,g6,g7,g8,g9,-⟩:=A6t
 have h3:=A5V A Y [(x.1,x.2,[C1 1]),(y.1,y.2,[C1 1])] knY 2 1 2 2 rfl (by omega) (by omega) (fun r hr=>by
  simp only[List.mem_cons,List.not_mem_nil,or_false]at hr;rcases hr with rfl|rfl<;>rfl) rfl (by omega) (by omega) 50 (by omega) (by omega) (fun i hi j hj=>by
  obtain rfl:j=0:=by omega
  have:i=0∨i=1:=by omega
  rcases this with rfl|rfl
  ·exact g6
  ·exact g7) (fun i hi=>by
  have:i=0∨i=1:=by omega
  rcases this with rfl|rfl
  ·exact g8
  ·exact g9) W h h2 HT
 have e:N3 ([(x.1,x.2,[C1 1]),(y.1,y.2,[C1 1])].map (·.2.2)) knY 2 1=I6 4 1:=B5x;rw[e]at h3;exact h3
theorem B2t(A:Option Addr)(Y:Ax)(x y:Ax)(W:World)(h:Lrq W A [(x.1,x.2,[C1 1]),(y.1,y.2,[C1 1])])(h2:Lq W Y.1 knY)(HT:Tab W):Calls Tryz.prog 14 #[.slice A 2 2,.slice Y.1 2 Y.2,qV (C1 2)] W (G1 (fun x:Ax=>.tuple #[.slice x.1 1 x.2,.int .i64 0]) (fun x W=>Lq W x.1 [I6 1 1]) W):=by
 obtain⟨-,-,-,-,-,g6,g7,g8,g9,g10⟩:=A6t
 have h3:=A9g A [(x.1,x.2,[C1 1]),(y.1,y.2,[C1 1])] 2 1 2 Y knY rfl (by omega) (by omega) (by omega) (by omega) (fun r hr=>by
  simp only[List.mem_cons,List.not_mem_nil,or_false]at hr;rcases hr with rfl|rfl<;>rfl) rfl 50 (by omega) (by omega) (fun i hi j hj=>by
  obtain rfl:j=0:=by omega
  have:i=0∨i=1:=by omega
  rcases this with rfl|rfl
  ·exact g6
  ·exact g7) (fun i hi=>by
  have:i=0∨i=1:=by omega
  rcases this with rfl|rfl
  ·exact g8
  ·exact g9) (C1 2) (by decide +kernel) B7t knF knB knL 50 g10 (by unfold BIG;omega) (fun k hk=>by
  obtain⟨h1,h2,h3,-⟩:=A5q k hk;exact⟨h1,h2,h3⟩) (fun k hk=>by
  obtain⟨h1,h2,h3,h4,h5,h6,-⟩:=A5q k hk;refine⟨fun i hi=>?_,fun i hi=>?_,fun x hx=>?_⟩
  ·obtain rfl:i=0:=by omega
   exact h4
  ·obtain rfl:i=0:=by omega
   exact h5
  ·have:=List.all_eq_true.1 h6 x hx
   simpa using this) (fun k hk=>B5F k hk) 2 (by decide) A6S.1 (fun j hj=>by
  have:j=0∨j=1:=by omega
  rcases this with rfl|rfl
  ·exact A6S.2.1
  ·exact A6S.2.2) W h h2 HT
 rw[B20]at h3;exact h3
theorem B03(w:World)(HT:Tab w):Calls Tryz.prog 19 #[] w fun e w'=>e = .returned (.bool true)∧A4 w w':=by
 have z41:qs (I6 4 1)≤10:=by decide +kernel
 have z11:qs (I6 1 1)≤10:=by decide +kernel
 go_enter Tryz.func19,Tryz.ntmps19;refine en0 ?_;intro u hG hB hF;refine B9b (rsE D3 [1,1,1,1,1,0] hB hG fun L hL=>?_);refine gmw (C:=fun v=>A0N 1 (by omega) (by omega) _) ?_;refine gx Nat (fun b=>.slice (some ⟨b,0,none⟩) 1 1) (fun b W=>Lq W (some ⟨b,0,none⟩) [C1 1]) (fun _ _ _ hg h=>h.grow hg) rfl ?_ (fun x8=>?_)
 ·(rintro v ⟨hgu,hB,hG,-⟩ N hN;go_simp;exact hN v.heap.size _ (A4I v [C1 1]) (A4.alloc _ _))
 refine okf (by simp only[Act.put,List.setIfInBounds_toArray,List.set_cons_succ,List.set_cons_zero];exact rfl) ?_;refine gmw (C:=fun v=>A0N 1 (by omega) (by omega) _) ?_;refine gx Nat (fun b=>.slice (some ⟨b,0,none⟩) 1 1) (fun b W=>Lq W (some ⟨b,0,none⟩) [C1 1]) (fun _ _ _ hg h=>h.grow hg) rfl ?_ (fun x10=>?_)
 ·(rintro v ⟨⟨hgu,hB,hG,-⟩,hx8⟩ N hN;go_simp;exact hN v.heap.size _ (A4I v [C1 1]) (A4.alloc _ _))
 refine okf (by simp only[Act.put,List.setIfInBounds_toArray,List.set_cons_succ,List.set_cons_zero];exact rfl) ?_;refine gx Nat (fun b=>.slice (some ⟨b,0,none⟩) 2 2) (fun b W=>Lrq W (some ⟨b,0,none⟩) [(some ⟨x8,0,none⟩,1,[C1 1]),(some ⟨x10,0,none⟩,1,[C1 1])]) (fun _ _ _ hg h=>h.grow hg) rfl ?_ (fun x11=>?_)
 ·(rintro v ⟨⟨⟨hgu,hB,hG,-⟩,hx8⟩,hx10⟩ N hN;go_simp;exact hN v.heap.size _ (B5B v [(some ⟨x8,0,none⟩,1,[C1 1]),(some ⟨x10,0,none⟩,1,[C1 1])] (fun r hr=>by simp only[List.mem_cons,List.not_mem_nil,or_false]at hr;rcases hr with rfl|rfl<;>first|exact hx8|exact hx10)) (A4.alloc _ _))
 refine okf (by simp only[Act.put,List.setIfInBounds_toArray,List.set_cons_succ,List.set_cons_zero];exact rfl) ?_;refine gs ?_;refine geT hL ?_;clear hB hG hL L;rintro u ⟨⟨⟨⟨hgu,hB,hG,-⟩,hx8⟩,hx10⟩,hx11⟩;obtain⟨w1,hw1⟩:=exQ u;have HX:=B9g (show Lrq w1 (some ⟨x11,0,none⟩) [(some ⟨x8,0,none⟩,1,[C1 1]),(some ⟨x10,0,none⟩,1,[C1 1])]from hw1 ▸ hx11);have hG1:A4 w1 u:=hw1 ▸ A4.refl u;clear hx8 hx10 hx11 hw1;clear hgu;refine B9b (rsE D3 [1,1,1,0] hB hG fun L hL=>?_);refine gmw (C:=fun v=>A0N 3 (by omega) (by omega) _) ?_;refine gmw (C:=fun v=>A0N 1 (by omega) (by omega) _) ?_;refine gx Nat (fun b=>.slice (some ⟨b,0,none⟩) 2 2) (fun b W=>Lq W (some ⟨b,0,none⟩) knY) (fun _ _ _ hg h=>Lq.grow h hg) rfl ?_ (fun x14=>?_)
 ·(rintro v ⟨hgu,hB,hG,-⟩ N hN;go_simp;exact hN v.heap.size _ (A4I v knY) (A4.alloc _ _))
 refine okf (by simp only[Act.put,List.setIfInBounds_toArray,List.set_cons_succ,List.set_cons_zero];exact rfl) ?_;refine gs ?_;refine geT hL ?_;clear hB hG hL L;rintro u ⟨⟨hgu,hB,hG,-⟩,hx14⟩;replace hG1:=hG1.trans hgu;obtain⟨w2,hw2⟩:=exQ u;have HY:=B9g (show Lq w2 (some ⟨x14,0,none⟩) knY from hw2 ▸ hx14);have hG2:A4 w2 u:=hw2 ▸ A4.refl u;clear hx14 hw2;clear hgu;refine B9b (rsC D3 [0,0,1,0,0,0,2] hB hG fun K L hN hL=>?_);refine gs ?_;refine gmd (C:=fun v ⟨hgu,hB,hG,_⟩=>B3s _ _ (some ⟨x8,0,none⟩,1) (some ⟨x10,0,none⟩,1) _ (HX.out.grow (hG1.trans hgu)) (HY.out.grow (hG2.trans hgu)) (HT.grow hG)) ?_;refine gs ?_;refine gaa (J5 _ _ _ _ _) fun b3 hb3 hn3=>?_;replace hF:=hF.n1 [] hB hG hb3 hn3;refine geC hL ?_;clear hB hG hL L;rintro u ⟨⟨hgu,hB,hG,-⟩,h3⟩;replace hB:=hB.cons' h3;clear h3;have hw31:w1.heap.size≤b3:=B9Y hG1.size hb3;have hw32:w2.heap.size≤b3:=B9Y hG2.size hb3;replace hG1:=hG1.trans hgu;replace hG2:=hG2.trans hgu;clear hb3 hn3;clear hgu;refine gtT ?_;clear hN K;refine sv hB hF hG 0 0 [_,_,_,_,_] ?_;intro u hu hBG;replace hG1:=A02 hG1 hw31 hu;replace hG2:=A02 hG2 hw32 hu;clear hB hG hu;obtain⟨hB,hG⟩:=hBG;refine B9b (rsE D3 [0,0,1,1,0,0,0,0,0] hB hG fun L hL=>?_);refine gs ?_;refine gmw (C:=fun v=>A0N 2 (by omega) (by omega) _) ?_;refine gxd (X:=Ax) (fun x:Ax=>.tuple #[.slice x.1 1 x.2,.int .i64 0]) (fun x W=>Lq W x.1 [I6 1 1]) (fun x u u' hg h=>Lq.grow h hg) (fun x25=>?_) (C:=by(rintro v ⟨hgu,hB,hG,-⟩;exact B2t _ (some ⟨x14,0,none⟩,2) (some ⟨x8,0,none⟩,1) (some ⟨x10,0,none⟩,1) _ (HX.out.grow (hG1.trans hgu)) (HY.out.grow (hG2.trans hgu)) (HT.grow hG)));refine gs ?_;refine geT hL ?_;clear hB hG hL L;rintro u ⟨⟨hgu,hB,hG,-⟩,hx25⟩;obtain⟨xa,xc⟩:=x25;have HL:=B9g (fun W (hg:A4 u W)=>Lq.grow (show Lq u xa [I6 1 1]from hx25) hg);obtain⟨bq,oq,rfl⟩:∃b o,xa=some ⟨b,o,none⟩:=Lq.addr (show Lq u xa [I6 1 1]from hx25) (by simp);have hcq:∀W,A4 u W→Cq W bq oq (I6 1 1):=fun W hg=>by
  have h:=(HL.out W hg).read (i:=0) (by simp);rw[B96,Nat.add_zero]at h;exact h
 have HC:=B9g hcq;clear hx25 HL hcq;clear hgu;refine B9b (rsE D3 [0,0,0,0,1,0,0,0,0,0,0,0,0,0,0,0,0,0,0,1,0,0] hB hG fun L hL=>?_)
 repeat first|refine gya ?_|refine gyr ?_|refine gna ?_|refine gyb (by(rintro v ⟨hgu,hB,hG,-⟩ N hN;have r:=hB.r;simp only[BxR]at r;obtain⟨y1,y2,y3,y4,y5⟩:=HC.out v hgu;go_simp;exact hN)) ?_
 first|refine gmw (C:=fun v=>A7g 4 1 (by omega) (by omega) rfl z41 _) ?_|refine M9 ?_
 repeat first|refine gya ?_|refine gyr ?_|refine gna ?_|refine gyb (by(rintro v ⟨hgu,hB,hG,-⟩ N hN;have r:=hB.r;simp only[BxR]at r;obtain⟨y1,y2,y3,y4,y5⟩:=HC.out v hgu;go_simp;exact hN)) ?_
 first|refine gmw (C:=fun v=>A7g 1 1 (by omega) (by omega) rfl z11 _) ?_|refine M9 ?_
 refine gs ?_;refine geT hL ?_;clear hB hG hL L;rintro u ⟨-,hB,hG,-⟩;refine rt Tryz.results19 ?_;exact⟨rfl,hG⟩
theorem B71(l:List Int)(n:Nat):∀x∈A0H l n,qs x≤5:=fun x hx=>by
 unfold A0H at hx;obtain⟨i,-,rfl⟩:=List.mem_map.1 hx;unfold A4H;split
 ·exact B3o _
 ·rw[show C1 0=0 from rfl,A2e];omega
theorem B1r(A:Option Addr)(l:List Int)(c p n:Nat)(hp:p=l.length)(hn:n≤1048576)(hpm:p≤9223372036854775807)(hb:∀x∈l,-9223372036854775808≤x∧x≤9223372036854775807)(w:World)(h:Li w A l) :
  Calls Tryz.prog 31 #[.slice A p c,.int .i64 n] w (G1 (fun x:Ax=>.slice x.1 n x.2) (fun x W=>Lz W x.1 (A0H l n)) w) :=
 (B7b A l c p n hp hn hpm hb w h).mono fun e w' ⟨A',c',he,h1,hg⟩=>⟨(A',c'),he,h1.1,hg⟩
abbrev slV(L:Nat)(P:Ax):Value:=.slice P.1 L P.2
abbrev slE(L:Nat)(P:Ax):List Value:=[slV L P]
def pX(ps:List Ax)(i:Nat):Ax:=ps.getD i (none,0)
theorem B4A{ps:List Ax}{i:Nat}(h:i<ps.length):ps[i]=pX ps i:=by
 unfold pX;rw[C1i,B9w h];rfl
theorem B4I{ps:List Ax}{i t:Nat}{P:Ax}(hi:i<ps.length):pX (ps.set i P) t=if t=i then P else pX ps t:=by
 unfold pX;rw[C1i,C1i,List.getElem?_set];by_cases e:i=t
 ·rw[if_pos e,if_pos e.symm,if_pos (by omega)];rfl
 ·rw[if_neg e,if_neg (fun h=>e h.symm)]
theorem B5h{ps:List Ax}{t:Nat}{P:Ax}:pX (ps++[P]) t=if t=ps.length then P else pX ps t:=by
 unfold pX;rw[C1i,C1i];by_cases e:t=ps.length
 ·rw[if_pos e,e];simp
 ·rw[if_neg e];rcases B9H t ps.length with h|h
  ·rw[C08 h]
  ·rw[C01 (by simp;omega),C01 h]
theorem Lzt.kept{u w':World}{B:Nat}{e:TypeId}{size n:Nat}{v:Value}{xs:List Value}{A:Option Addr}{l:List Rat}(hl:Lzt u A l)(h:u.ownsRow B e size v n xs)(h1:e≠33)(h2:e≠193)(hg:u.grownBy w' v.ownBlock):Lzt w' A l:=by
 have key:∀(b:Nat) (cs:Array Value) (fr:Nat×Nat),u.heap[b]?=some (Obj.cells cs 33 fr)→w'.heap[b]?=u.heap[b]?:=fun b cs fr hb=>hg.block b (J3 hb) fun e0=>by
  obtain⟨-,⟨e1,-⟩|⟨g,cap,cur,rfl,-,hh,-⟩⟩:=h
  ·rw[e1]at e0;cases e0
  ·have e2:b=g:=B9M e0;rw[←e2,hb]at hh;injection hh with hh;injection hh with _ h3 _;exact h1 h3.symm
 refine⟨fun hne=>?_,fun b off hA=>?_⟩
 ·obtain⟨b,off,eA,hb,hc⟩:=hl.lz hne;obtain⟨cs,fr,hty⟩:=hl.ty b off eA;have hs:=key b cs fr hty;refine⟨b,off,eA,J3 (hs.trans hty),fun i hi=>?_⟩;obtain⟨p,g1,g2,g3,g4⟩:=hc i hi;exact⟨p,A7o g1 h h2 hg,(cell_of_heap hs _).trans g2,(cell_of_heap hs _).trans g3,(cell_of_heap hs _).trans g4⟩
 ·obtain⟨cs,fr,hty⟩:=hl.ty b off hA;exact⟨cs,fr,(key b cs fr hty).trans hty⟩
structure RdL(B L:Nat)(v:Value)(ps:List Ax)(R:Nat→List Rat)(W:World):Prop where
 hd:W.ownsRow B 25 1 v ps.length (ps.flatMap (slE L))
 row:∀t,t<ps.length→Lzt W (pX ps t).1 (R t)
section
variable {B L g c n:Nat} {v v':Value} {ps:List Ax} {R R':Nat→List Rat} {u w':World} {P:Ax}
theorem RdL.start(B L:Nat)(R:Nat→List Rat)(u:World):RdL B L (.slice none 0 0) [] R u:=⟨C1B _ _ _ _,fun t ht=>absurd ht (C1R _)⟩
theorem RdL.grow(h:RdL B L v ps R u)(hg:A4 u w'):RdL B L v ps R w':=⟨B9 h.hd hg,fun t ht=>(h.row t ht).grow hg⟩
theorem RdL.congr(h:RdL B L v ps R u)(he:∀t,t<ps.length→R' t=R t):RdL B L v ps R' u:=⟨h.hd,fun t ht=>by rw[he t ht];exact h.row t ht⟩
theorem RdL.add{o:Obj}(h:RdL B L v ps R u)(hP:Lzt u P.1 (R ps.length))(h1:w'.ownsRow B 25 1 v' (ps.length+1) (ps.flatMap (slE L)++slE L P))(hg:(u.alloc o).grownBy w' v.ownBlock):RdL B L v' (ps++[P]) R w' :=
 ⟨by rw[List.length_append,C1K];simpa using h1,fun t ht=>by
  rw[B5h];by_cases e:t=ps.length
  ·rw[if_pos e,e];exact hP.stay h.hd (by decide) (by decide) hg
  ·rw[if_neg e];rw[List.length_append,List.length_singleton]at ht
   exact(h.row t (by omega)).stay h.hd (by decide) (by decide) hg⟩
theorem RdL.put(h:RdL B L (.slice (some ⟨g,0,none⟩) n c) ps R u)(hn:ps.length=n){i:Nat}(hi:i<n)(hP:Lzt u P.1 (R' i))(hR:∀t,t<n→t≠i→R' t=R t)(hu:C2 u g i [slV L P]=w'):RdL B L (.slice (some ⟨g,0,none⟩) n c) (ps.set i P) R' w'∧u.grownBy w' (some g):=by
 subst hn;have h1:=O7 (enc:=slE L) (size:=1) (ps:=ps) (fun _=>rfl) h.hd i P hi;rw[C0d]at h1;rw[show C2 u g i (slE L P)=w' from hu]at h1;refine⟨⟨by rw[B95];exact h1.1,fun t ht=>?_⟩,h1.2⟩;rw[B95]at ht;rw[B4I hi];by_cases e:t=i
 ·rw[if_pos e,e];exact hP.kept h.hd (by decide) (by decide) h1.2
 ·rw[if_neg e,hR t ht e];exact(h.row t ht).kept h.hd (by decide) (by decide) h1.2
theorem RdL.fz(h:RdL B L (.slice (some ⟨g,0,none⟩) n c) ps R u)(hn:ps.length=n):∀j,u.frozen? ⟨g,j,none⟩=false:=by
 subst hn;exact fun j=>h.hd.frozenAt j
theorem RdL.read(h:RdL B L (.slice (some ⟨g,0,none⟩) n c) ps R u)(hn:ps.length=n){i:Nat}(hi:i<n):u.cell? ⟨g,i,none⟩=some (slV L (pX ps i)):=by
 subst hn;have h1:=R9 (enc:=slE L) (size:=1) (fun _=>rfl) h.hd rfl i 0 hi (by omega);rw[C0d,Nat.add_zero]at h1;rw[h1,←B4A hi];rfl
theorem RdL.swap(h:RdL B L (.slice (some ⟨g,0,none⟩) n c) ps R u)(hn:ps.length=n){i j:Nat}(hi:i<n)(hj:j<n)(hR:∀t,t<n→R' t=if t=i then R j else if t=j then R i else R t)(hu:C2 (C2 u g i [slV L (pX ps j)]) g j [slV L (pX ps i)]=w'):RdL B L (.slice (some ⟨g,0,none⟩) n c) ((ps.set i (pX ps j)).set j (pX ps i)) R' w'∧u.grownBy w' (some g):=by
 obtain⟨u1,hu1⟩:∃x,C2 u g i [slV L (pX ps j)]=x:=⟨_,rfl⟩
 rw[hu1]at hu;obtain⟨p1,p2⟩:=h.put (R':=fun t=>if t=i then R j else R t) hn hi (P:=pX ps j) (by rw[if_pos rfl];exact h.row j (by omega)) (fun t _ e=>by rw[if_neg e]) hu1;have hl:=(h.row i (by omega)).kept h.hd (by decide) (by decide) p2
 obtain⟨q1,q2⟩:=p1.put (R':=R') (by rw[B95];exact hn) hj (P:=pX ps i) (by
  rw[hR j hj];by_cases e:j=i
  ·rw[if_pos e,e];exact hl
  ·rw[if_neg e,if_pos rfl];exact hl) (fun t ht e=>by
  show R' t=if t=i then R j else R t
  rw[hR t ht];by_cases e2:t=i
  ·rw[if_pos e2,if_pos e2]
  ·rw[if_neg e2,if_neg e2,if_neg e]) hu
 exact⟨q1,A1c p2 q2⟩
theorem RdL.elem(h:RdL B L (.slice (some ⟨g,0,none⟩) n c) ps R u)(hn:ps.length=n){i:Nat}(hi:i<n)(hl:(R i).length=L){k:Nat}(hk:k<L):∃(b o d:Nat) (p:Az),pX ps i=(some ⟨b,o,none⟩,d)∧∀W,A4 u W→W.cell? ⟨g,i,none⟩=some (.slice (some ⟨b,o,none⟩) L d)∧Rz W p (gq (R i) k)∧Cz W b (o+k*3) p (gq (R i) k):=by
 have h1:=h.row i (by omega);obtain⟨b,o,e⟩:=h1.lz.addr (by omega);obtain⟨⟨a,d⟩,hP⟩:∃P,P=pX ps i:=⟨_,rfl⟩
 rw[←hP]at h1 e;simp only at e;subst e;obtain⟨p,hp⟩:=h1.lz.read (i:=k) (by omega);refine⟨b,o,d,p,hP.symm,fun W hg=>⟨?_,hp W hg⟩⟩;have h2:=(h.grow hg).read hn hi;rw[←hP]at h2;exact h2
end
def A1B(ps:List Ax)(R:Nat→List Rat)(K:Nat):List Rq:=(List.range K).map fun i=>((pX ps i).1,(pX ps i).2,R i)
theorem RdL.lrz{B L g c n K:Nat}{ps:List Ax}{R:Nat→List Rat}{u:World}(h:RdL B L (.slice (some ⟨g,0,none⟩) n c) ps R u)(hn:ps.length=n)(hK:K≤n)(hl:∀i,i<K→(R i).length=L):Lrz u (some ⟨g,0,none⟩) (A1B ps R K):=fun hne=>by
 refine⟨g,0,rfl,(h.hd.lt g rfl).2,fun i r hi=>?_⟩;unfold A1B at hi;rw[List.getElem?_map]at hi;obtain⟨k,hk,rfl⟩:=Option.map_eq_some_iff.1 hi;have hiK:i<K:=by
  have:=(List.getElem?_eq_some_iff.1 hk).1
  simpa using this
 have hki:k=i:=by
  rw[C1N hiK]at hk;exact(B9M hk).symm
 subst hki;rw[Nat.zero_add,h.read hn (by omega)];simp only;rw[hl k hiK];exact⟨rfl,(h.row k (by omega)).lz⟩
theorem B2U:EI 24 25 1 24:=A0l (by kernel_rfl) (by kernel_rfl) (by omega)
theorem B1Q(A:Option Addr)(n c:Nat)(w:World):(Instr.buildSlice 24 1 #[(0,.slice A n c)]).run Tryz.prog w = .ok (.slice (some ⟨w.heap.size,0,none⟩) 1 1) (w.alloc (.cells #[.slice A n c] 25)):=by
 go_simp
theorem B6h(ps:List Ax)(R:Nat→List Rat)(K:Nat):(A1B ps R K).map (·.2.2)=(List.range K).map R:=by
 unfold A1B;rw[List.map_map];rfl
theorem B4g(ps:List Ax)(R:Nat→List Rat)(K:Nat):(A1B ps R K).length=K:=by unfold A1B;simp
theorem B1a{ps:List Ax}{R:Nat→List Rat}{K L:Nat}(h:∀i,i<K→(R i).length=L):∀r∈A1B ps R K,r.2.2.length=L:=fun r hr=>by
 unfold A1B at hr;obtain⟨i,hi,rfl⟩:=List.mem_map.1 hr;exact h i (List.mem_range.1 hi)
def ZW(B g c N:Nat)(l:List Rat)(W:World):Prop:=∃ps:List Zr,ps.map (·.2)=l∧I1 W ps∧W.ownsRow B 33 3 (.slice (some ⟨g,0,none⟩) N c) N (ps.flatMap zrL)
section
variable {B B' g c N:Nat} {l:List Rat} {u w':World}
theorem ZW.len(h:ZW B g c N l u):l.length=N:=by
 obtain⟨ps,h1,h2,h3⟩:=h;obtain⟨A,c',e,-,-,-,hk⟩:=A3n h3 h2;rw[←h1,List.length_map,hk]
theorem ZW.grow(h:ZW B g c N l u)(hg:A4 u w'):ZW B g c N l w':=by
 obtain⟨ps,h1,h2,h3⟩:=h;exact⟨ps,h1,h2.grow hg,B9 h3 hg⟩
theorem ZW.mono(h:ZW B g c N l u)(hb:B'≤B):ZW B' g c N l u:=by
 obtain⟨ps,h1,h2,h3⟩:=h;exact⟨ps,h1,h2,h3.mono hb⟩
theorem ZW.lt(h:ZW B g c N l u):B≤g∧g<u.heap.size:=by
 obtain⟨ps,h1,h2,h3⟩:=h;exact h3.lt g rfl
theorem ZW.lzt(h:ZW B g c N l u):Lzt u (some ⟨g,0,none⟩) l:=by
 obtain⟨ps,h1,h2,h3⟩:=h;obtain⟨A,c',e,-,-,h4,-⟩:=B1y h3 h2;cases e;rw[←h1];exact h4
theorem ZW.spot(h:ZW B g c N l u){i:Nat}(hi:i<N):∃y0 y1 y2,u.cell? ⟨g,i*3,none⟩=some y0∧u.cell? ⟨g,i*3+1,none⟩=some y1∧u.cell? ⟨g,i*3+2,none⟩=some y2∧∀j,u.frozen? ⟨g,j,none⟩=false:=by
 obtain⟨ps,h1,h2,h3⟩:=h;obtain⟨A,c',e,-,-,-,hk⟩:=A3n h3 h2;exact B0w (enc:=zrL) (fun _=>rfl) h3 hk i (by omega)
theorem ZW.put(h:ZW B g c N l u){i:Nat}(hi:i<N){p:Az}{q:Rat}(hp:Rz u p q)(hu:C2 u g (i*3) (zL p q)=w'):ZW B g c N (l.set i q) w'∧u.grownBy w' (some g):=by
 obtain⟨ps,h1,h2,h3⟩:=h;obtain⟨A,c',e,-,-,-,hk⟩:=A3n h3 h2;have hP:=O7 (enc:=zrL) (size:=3) (ps:=ps) (fun _=>rfl) h3 i (p,q) (by omega);rw[show C2 u g (i*3) (zrL (p,q))=w' from hu]at hP;have hA:I1 u (ps++[(p,q)]):=fun r hr=>by
  rcases List.mem_append.1 hr with hr|hr
  ·exact h2 r hr
  ·rw[List.mem_singleton]at hr;rw[hr];exact hp
 have hA2:=I1.row hA h3 hu;refine⟨⟨ps.set i (p,q),by rw[List.map_set,h1],fun r hr=>?_,hP.1⟩,hP.2⟩;rcases List.mem_or_eq_of_mem_set hr with hr|hr
 ·exact hA2 r (List.mem_append.2 (.inl hr))
 ·rw[hr];exact hA2 _ (by simp)
theorem ZW.other(h:ZW B g c N l u){g2:Nat}{B2 e size n:Nat}{c2:Nat}{xs:List Value}(h2:u.ownsRow B2 e size (.slice (some ⟨g2,0,none⟩) n c2) n xs)(hne:g2≠g)(he:e≠193)(hg:u.grownBy w' (some g2)):ZW B g c N l w':=by
 obtain⟨ps,h1,h3,h4⟩:=h;exact⟨ps,h1,B3t h3 h2 he hg,h4.kept hg (.inr (fun e=>hne (B9M e).symm))⟩
theorem ZW.own(h:ZW B g c N l u):∃xs,u.ownsRow B 33 3 (.slice (some ⟨g,0,none⟩) N c) N xs:=by
 obtain⟨ps,h1,h3,h4⟩:=h;exact⟨_,h4⟩
end
theorem B6v(N:Nat)(hN:N≤20)(w:World):Calls Tryz.prog 113 #[.int .i64 (N:Nat)] w (G1 (fun x:Nat=>.slice (some ⟨x,0,none⟩) N N) (fun x W=>ZW w.heap.size x N N (M4 N) W) w):=by
 have hmk:=B5Q N (by omega) (N:Int) rfl;have Hmk:=B9g hmk;clear hmk;go_enter Tryz.func113,Tryz.ntmps113;refine en0 ?_;intro u hG hB hF;refine B9b ?_;have hmk:=Hmk.out;refine L8 ?_;intro K hN;go_wp2_with fail;generalize hv:World.alloc u _=v;have hrow:=B7c hG.sz (by omega) hv;have hgv:A4 u v:=hv ▸ A4.alloc u _;have hG2:=hG.trans hgv;clear hv hG hB hmk hgv;generalize u.heap.size=g at hrow⊢;have Ho:=B9g hrow;have hG:=hG2;have hB:=Bx.nil v;have hF:=Fr.nil w;clear hrow hG2;obtain⟨u,rfl⟩:=exQ v;refine NoK.norm (hN _ _ ?_);clear hN K;refine A6 ?_;refine B9b ?_;refine r0T ?_;refine B99 ?_;clear hB hF;go_loopw [4] (fun s0 wr=>∃ps:List Az,ps.length≤N∧s0 = .int .i64 (ps.length:Nat)∧I1 wr (ps.map fun p=>((p,C1 0):Zr))∧wr.ownsRow w.heap.size 33 3 (.slice (some ⟨g,0,none⟩) N N) N ((A0R ps N).flatMap trL)∧A4 w wr) (fun s0 _=>N-(intOf s0).toNat)
 case atStart=>exact⟨[],B9y _,rfl,I1.nil _,Ho.out,hG⟩
 case round =>
  clear hG Ho;obtain⟨ps,hi,rfl,hA,ho,hG⟩:=hrel;obtain⟨u,rfl⟩:=exQ wr;have Ho:=B9g ho;have hB:=Bx.nil u;have hF:=Fr.nil w;clear ho;obtain⟨i,hie⟩:∃i,i=ps.length:=⟨_,rfl⟩
  rw[←hie]at hi⊢;rcases B9H i N with hlt|hge
  ·have hdec:decide ((i:Int)<(N:Int))=true:=by simp;omega
   have hin:(i:Int)<(N:Int):=by omega
   have hst:=fun p=>B5W (ps:=ps) (n:=N) (by omega) p;rw[←hie]at hst;have Hst:=B9g hst;have Hie:=B9g hie;clear hst hie;refine B9b ?_;refine r0T ?_;refine B9j (rfl) ?_;refine B9i ?_;refine A6 ?_;refine B9b ?_;refine B99 ?_;refine rsC A8 [0,0,1,0] hB hG fun K L hN hL=>?_;refine gs ?_;refine grd (W7 (C1 0)) (fun(x14:Ax×Ax)=>?_) (C:=fun v _=>A55 0 (by omega) (by omega) _);refine gs ?_;refine geC hL ?_;clear hB hG hL L;rintro u ⟨⟨hgu,hB,hG,-⟩,hx14⟩;replace hA:=hA.grow hgu;obtain⟨hx14a,hx14b⟩:Rn u x14.1 _∧Rn u x14.2 _:=hx14;have Ho2:=B9g (B9 Ho.out hgu);clear Ho;have Ho:=Ho2;clear Ho2;obtain⟨z0,z1,z2,o0,o1,o2,hfz⟩:=B0w (enc:=trL) (fun _=>rfl) Ho.out (A6m (by rw[←Hie.out];exact hi)).symm i (by rw[A6m (by rw[←Hie.out];exact hi)];exact hlt);clear hgu;refine gt ?_;clear hN K;clear o0 o1 o2 hfz;generalize hu0:World.setCell (World.setCell (World.setCell u _ _) _ _) _ _=u0;have hu1:C2 u g (i*3) (trL (trZ x14))=u0:=hu0;have hP:=O7 (enc:=trL) (size:=3) (ps:=A0R ps N) (fun _=>rfl) Ho.out i (trZ x14) (by rw[A6m (by rw[←Hie.out];exact hi)];exact hlt);rw[Hst.out,hu1]at hP;have hG2:=N7 Ho.out hG hP.2;have hA2:I1 u0 ((ps++[x14]).map fun p=>((p,C1 0):Zr)):=by
    rw[List.map_append];exact I1.row (hA.snoc hx14a hx14b) Ho.out hu1
   have Ho2:=B9g hP.1;clear hG hB Ho hP hu1 hu0 hA hx14a hx14b;have hG:=hG2;have hB:=Bx.nil u0;have hF:=Fr.nil w;have Ho:=Ho2;have hA:=hA2;clear hG2 Ho2 hA2;obtain⟨u,rfl⟩:=exQ u0;refine C8 ?_;refine A6 ?_;refine r0E ?_;refine A6 ?_;go_roundw
   case rel=>exact⟨ps++[x14],by rw[List.length_append,←Hie.out];exact hlt,by rw[List.length_append,←Hie.out];go_num,hA,Ho.out,hG⟩
   case measure=>simp[intOf];omega
  ·obtain rfl:N=i:=by omega
   have hdec:decide ((N:Int)<(N:Int))=false:=by simp
   have ho:=Ho.out;rw[B1g hie.symm]at ho;have ez:(ps.map fun p=>((p,C1 0):Zr)).map (·.2)=M4 N:=by
    rw[List.map_map,hie];unfold M4;apply B9W
    ·simp
    ·intro j h1 h2;simp;rfl
   have HL:=B9g (⟨_,ez,hA,ho⟩:ZW w.heap.size g N N (M4 N) u);clear ho Ho ez hA hie;refine B9b ?_;refine r0T ?_;refine B9h (rfl) ?_;refine C0B ?_;refine C0 ?_;refine C0 ?_;refine E4 ?_;refine A6 ?_;refine r0T ?_;refine rt Tryz.results113 ?_;exact⟨g,rfl,HL.out,hG⟩
end Go.Proofs.YtgpglgbcobeogaaGreatDoor
