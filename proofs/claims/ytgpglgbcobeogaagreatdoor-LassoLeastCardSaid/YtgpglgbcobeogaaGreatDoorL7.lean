import Derived.Test.YtgpglgbcobeogaaGreatDoorL6
set_option linter.unusedSimpArgs false
set_option linter.unusedVariables false
set_option maxHeartbeats 2000000
set_option maxRecDepth 100000
namespace Go.Proofs.YtgpglgbcobeogaaGreatDoor
open Go.RowKit
theorem B0I{a b:Nat}(h:(D9 a).length<(D9 b).length):a<b:=by
 have h1:a/W64<b/W64:=by
  rcases B73 (a/W64) (b/W64)with h2|h2
  ·exact h2
  ·exfalso;have hb:=K6 (G5 E5 (a/W64));rw[E3 E5]at hb;have h3:(B4 W64 (b/W64)).length<=(B4 W64 (a/W64)).length:=A3v E5 (B8O h2 hb);unfold D9 at h;omega
 rcases B73 a b with h2|h2
 ·exact h2
 ·have:=Nat.div_le_div_right (c:=W64) h2;omega
theorem A1U(a:Nat):val W64 (D9 a)=a/W64:=E3 E5 _
theorem B0Q{a b:Nat}(h:a/W64<b/W64):a<b:=by
 rcases B73 a b with h2|h2
 ·exact h2
 ·have:=Nat.div_le_div_right (c:=W64) h2;omega
theorem A9O{a b:Nat}(h:D9 a=D9 b)(hl:a%W64<b%W64):a<b:=by
 have h1:a/W64=b/W64:=by rw[<-A1U a,<-A1U b,h]
 have h2:=B9i a W64;have h3:=B9i b W64;rw[h1]at h2;omega
theorem B5q{a b:Nat}(h:D9 a=D9 b)(hl:a%W64=b%W64):a=b:=by
 have h1:a/W64=b/W64:=by rw[<-A1U a,<-A1U b,h]
 rw[<-B9i a W64,<-B9i b W64,h1,hl]
theorem B4P(a b:Nat)(hne:(D9 a).length≠(D9 b).length)(w:World):Calls Tryz.prog 140 #[B5 a,B5 b] w λe w'=>e = .returned (.int .i64 (G4 a b))/\A4 w w':=by
 have h1:=A0q a;have h2:=A0q b;have hq:(((B8 a).size:Int) != ((B8 b).size:Int))=true:=by simp;omega
 rcases B8H hne with h|h
 ·rw[V4 (B0I h)];have hd:decide ((B8 a).size<(B8 b).size)=true:=by simp;omega
  clear h1 h2 hne h;go_enter Tryz.func140,Tryz.ntmps140;go_wp2;go_ret;exact⟨rfl,(A4.alloc _ _).trans (A4.alloc _ _)⟩
 ·rw[A0c (B0I h)];have hd:decide ((B8 a).size<(B8 b).size)=false:=by simp;omega
  clear h1 h2 hne h;go_enter Tryz.func140,Tryz.ntmps140;go_wp2;go_ret;exact⟨rfl,(A4.alloc _ _).trans (A4.alloc _ _)⟩
theorem B5o(a b:Nat)(hle:(D9 a).length=(D9 b).length)(ha:bl a<=1099511627776)(w:World):Calls Tryz.prog 140 #[B5 a,B5 b] w λe w'=>e = .returned (.int .i64 (G4 a b))/\A4 w w':=by
  obtain⟨m,hm⟩:∃m,m=(D9 a).length:=⟨_,rfl⟩
  have h1:(B8 a).size=8*m:=by rw[A0q,hm]
  have h2:(B8 b).size=8*m:=by rw[A0q,hm,hle]
  have hub:=A58 a;have hmm:m<=17179869184:=by omega
  have hq:(((8*m:Nat):Int) != ((8*m:Nat):Int))=false:=by simp
  obtain⟨la,hla⟩:∃la,la=D9 a:=⟨_,rfl⟩
  obtain⟨lb,hlb⟩:∃lb,lb=D9 b:=⟨_,rfl⟩
  have Hla:=B8S hla;have Hlb:=B8S hlb;have hlena:la.length=m:=by rw[hla,hm]
  have hlenb:lb.length=m:=by rw[hlb,hm,hle]
  have Hlena:=B8S hlena;have Hlenb:=B8S hlenb;have Hs1:=B8S h1;have Hs2:=B8S h2;clear hle ha hm hub hla hlb hlena hlenb;go_enter Tryz.func140,Tryz.ntmps140;go_wp2_with fail;generalize hu:World.alloc (World.alloc w _) _=u;obtain⟨hB,hG⟩:=A0A [(_,_),(_,_)] w u hu;simp only[O8]at hB;clear hu;generalize w.heap.size+1=b3 at hB⊢;generalize w.heap.size=b2 at hB⊢;go_loopw [5] (λi wr=>∃k:Nat,k<=m/\i = .int .i64 (8*(k:Int)-8)/\la.drop k=lb.drop k/\Bx wr [(b2,44,#[.int .u64 (C4 a),.string (B8 a)]),(b3,44,#[.int .u64 (C4 b),.string (B8 b)])]/\A4 w wr) (λi _=>(intOf i+8).toNat)
  case atStart=>exact⟨m,K2 _,rfl,by rw[B8m (by rw[Hlena.out];exact K2 _),B8m (by rw[Hlenb.out];exact K2 _)],hB,hG⟩
  case round =>
    obtain⟨k,hk,rfl,hdr,hB2,hG2⟩:=hrel;have Hdr:=B8S hdr;clear hdr hB hG;rcases B8M k with rfl|hpos
    · have r:=hB2.r
      simp only[BxR]at r;have hne:¬(0:Int)<=8*((0:Nat):Int)-8:=by omega
      go_wp2_with fail;refine(A8b (a%W64) (b%W64) _).mono ?_;rintro e w1 ⟨rfl,hg⟩;go_wp2_with fail;go_ret;refine⟨B9d (λn=>Ending.returned (.int .i64 n)) ?_,hG2.trans hg⟩;have hu:D9 a=D9 b:=by rw[<-Hla.out,<-Hlb.out];exact Hdr.out
      rcases B85 (a%W64) (b%W64)with h|h|h
      · rw[V4 (A9O hu h),V4 h]
      · rw[A13 (B5q hu h),A13 h]
      · rw[A0c (A9O hu.symm h),A0c h]
    · have hka:k-1<(D9 a).length:=by rw[<-Hla.out,Hlena.out];omega
      have hkb:k-1<(D9 b).length:=by rw[<-Hlb.out,Hlenb.out];omega
      obtain⟨x,hx⟩:∃x,x=dg la (k-1):=⟨_,rfl⟩
      obtain⟨y,hy⟩:∃y,y=dg lb (k-1):=⟨_,rfl⟩
      have hwx:∀W:World,Calls Tryz.prog 165 #[.string ((B8 a).extract (8*k-8) (8*m))] W λe w'=>e = .returned (.int .u64 (x:Nat))/\A4 W w':=by
        intro W;rw[hx,E8 (by rw[Hla.out];exact hka),<-Hs1.out,show 8*k-8=8*(k-1)by omega];have:=A4f a (k-1) hka _ (Lib.extract_to_end _ _) W;simp only[Hla.out];exact this
      have hwy:∀W:World,Calls Tryz.prog 165 #[.string ((B8 b).extract (8*k-8) (8*m))] W λe w'=>e = .returned (.int .u64 (y:Nat))/\A4 W w':=by
        intro W;rw[hy,E8 (by rw[Hlb.out];exact hkb),<-Hs2.out,show 8*k-8=8*(k-1)by omega];have:=A4f b (k-1) hkb _ (Lib.extract_to_end _ _) W;simp only[Hlb.out];exact this
      have Hwx:=B8S hwx;have Hwy:=B8S hwy;have Hx:=B8S hx;have Hy:=B8S hy;have hge:(0:Int)<=8*(k:Int)-8:=by omega
      have hge2:(8:Int)<=8*(k:Int):=by omega
      have hge3:8*(k:Int)-8<=8*(m:Int):=by omega
      have htn:(8*(k:Int)-8).toNat=8*k-8:=by omega
      clear hwx hwy hx hy hka hkb;go_wp2_with fail;refine A3U (w:=w) A8 11 [(0,0),(0,1),(0,2),(0,3),(0,5),(0,6),(0,7),(0,8),(1,4),(1,9),(0,10)] (by kernel_rfl) (by kernel_rfl) hB2 hG2 ?_;simp only[H6,List.getElem?_toArray,List.getElem?_cons_zero,List.getElem?_cons_succ]
      repeat (first
        | (apply gy
           · exact rfl
           · (rintro v ⟨-,hB,-⟩ N hN;have r:=hB.r;simp only[BxR]at r;go_simp;exact hN))
        | (apply gm
           · exact rfl
           · (rintro v-N hN;go_simp;(first|((with_reducible refine(Hwx.out _).mono ?_);rintro e w1 ⟨rfl,hb⟩;exact⟨_,rfl,hN _ hb⟩)|((with_reducible refine(Hwy.out _).mono ?_);rintro e w1 ⟨rfl,hb⟩;exact⟨_,rfl,hN _ hb⟩)))))
      refine H8 ?_;rintro v ⟨-,hB3,hG3⟩;clear hB2 hG2;simp only[List.drop_succ_cons,List.drop_zero];go_wp2_with fail;refine NoP.norm ?_;by_cases hxy:x=y
      · subst hxy
        have hb:((x:Int) != (x:Int))=false:=by simp
        go_wp2_with fail;go_roundw
        case rel =>
          refine⟨k-1,by omega,by go_num,?_,hB3,hG3⟩;have h3:=Hdr.out;have e1:la.drop (k-1)=dg la (k-1)::la.drop k:=by
            rw[B9H (by rw[Hlena.out];omega),E8 (by rw[Hlena.out];omega),show k-1+1=k by omega]
          have e2:lb.drop (k-1)=dg lb (k-1)::lb.drop k:=by
            rw[B9H (by rw[Hlenb.out];omega),E8 (by rw[Hlenb.out];omega),show k-1+1=k by omega]
          rw[e1,e2,h3,<-Hx.out,<-Hy.out]
        case measure=>simp[intOf];omega
      · have hb:((x:Int) != (y:Int))=true:=by simp;omega
        go_wp2_with fail;refine(A8b x y _).mono ?_;rintro e w1 ⟨rfl,hg⟩;go_wp2_with fail;go_ret;refine⟨B9d (λn=>Ending.returned (.int .i64 n)) ?_,hG3.trans hg⟩;have h3:=Hdr.out;have hda:Dig W64 la:=by rw[Hla.out];exact A2l a
        have hdb:Dig W64 lb:=by rw[Hlb.out];exact A2l b
        have hk1:k-1+1=k:=by omega
        rcases B8H hxy with h|h
        · have:=A2f (la:=la) (lb:=lb) (k:=k-1) hda (by rw[Hlena.out,Hlenb.out]) (by rw[Hlena.out];omega) (by rw[hk1];exact h3) (by rw[<-Hx.out,<-Hy.out];exact h)
          rw[Hla.out,Hlb.out,A1U,A1U]at this;rw[V4 h,V4 (B0Q this)]
        · have:=A2f (la:=lb) (lb:=la) (k:=k-1) hdb (by rw[Hlena.out,Hlenb.out]) (by rw[Hlenb.out];omega) (by rw[hk1];exact h3.symm) (by rw[<-Hx.out,<-Hy.out];exact h)
          rw[Hla.out,Hlb.out,A1U,A1U]at this;rw[A0c h,A0c (B0Q this)]
theorem A0G(a b:Nat)(ha:bl a<=1099511627776)(w:World):Calls Tryz.prog 140 #[B5 a,B5 b] w λe w'=>e = .returned (.int .i64 (G4 a b))/\A4 w w':=by
 by_cases h:(D9 a).length=(D9 b).length
 ·exact B5o a b h ha w
 ·exact B4P a b h w
def W7(u wr:World)(A1 A2:Option Addr)(lx ly:List Nat)(k cy:Nat):Prop :=
 ∃zs:List Nat,cy<=1/\zs.length=k/\Dig W64 zs/\val W64 zs+val W64 (ly.take k)=val W64 (lx.take k)+cy*W64^k/\Two u wr A1 A2 (zs++lx.drop k) ly
theorem W7.start{u wr:World}{A1 A2:Option Addr}{lx ly:List Nat}(h:Two u wr A1 A2 lx ly):W7 u wr A1 A2 lx ly 0 0 :=
 ⟨[],by omega,rfl,λx hx=>(by cases hx),by simp[val],h⟩
theorem W7.next{u wr:World}{A2:Option Addr}{bx:Nat}{lx ly:List Nat}{k cy:Nat}(h:W7 u wr (some ⟨bx,0,none⟩) A2 lx ly k cy)(hx:Dig W64 lx)(hy:Dig W64 ly)(hk:k<lx.length) :
  W7 u (wr.setCell ⟨bx,k,none⟩ (.int .u64 ((dg lx k+W64-dg ly k-cy)%W64:Nat))) (some ⟨bx,0,none⟩) A2 lx ly (k+1) (if dg lx k<dg ly k+cy then 1 else 0):=by
 obtain⟨zs,hcy,hz,hd,he,ho1,ho2,hne⟩:=h;have hne1:zs++lx.drop k≠[]:=by
  intro e;have:=B9d List.length e;simp at this;omega
 have h1:=D1 C6 hx k;have h2:=D1 C6 hy k;have hlist:(zs++lx.drop k).set k ((dg lx k+W64-dg ly k-cy)%W64)=(zs++[(dg lx k+W64-dg ly k-cy)%W64])++lx.drop (k+1):=by
  rw[List.set_append_right _ _ (by omega),hz,B8g,B9H hk,List.set_cons_zero,B8e];rfl
 obtain⟨b1,hb1,e1,hr1⟩:=ho1 hne1;injection e1 with e1;injection e1 with e1;subst e1;refine⟨zs++[(dg lx k+W64-dg ly k-cy)%W64],?_,by simp[hz],?_,A6P hcy h1 h2 hz he,?_,?_,?_⟩
 ·split<;>omega
 ·intro x hxm;rcases List.mem_append.1 hxm with h|h
  ·exact hd x h
  ·simp only[List.mem_cons,List.not_mem_nil,or_false]at h;rw[h];exact B8b _ C6
 ·intro _;refine⟨bx,hb1,rfl,?_⟩;rw[<-hlist];exact hr1.set k _
 ·intro hn2;obtain⟨b2,hb2,e2,hr2⟩:=ho2 hn2;refine⟨b2,hb2,e2,hr2.far ?_ _⟩;intro e;refine hne hne1 hn2 ?_;rw[e2,e]
 ·intro _ hn2;exact hne hne1 hn2
theorem W7.cell1{u wr:World}{bx:Nat}{A2:Option Addr}{lx ly:List Nat}{k cy:Nat}(h:W7 u wr (some ⟨bx,0,none⟩) A2 lx ly k cy)(hk:k<lx.length) :
  wr.cell? ⟨bx,k,none⟩=some (.int .u64 (dg lx k:Nat))/\wr.frozen? ⟨bx,k,none⟩=false/\u.heap.size<=bx:=by
 obtain⟨zs,hcy,hz,hd,he,ho1,ho2,hne⟩:=h
 obtain⟨b1,hb1,e1,hr1⟩:=ho1 (by
  intro e;have:=B9d List.length e;simp at this
  omega)
 injection e1 with e1;injection e1 with e1;subst e1;refine⟨?_,hr1.frozen k,hb1⟩;rw[hr1.cell,B9v (by omega),hz,B8g,List.getElem?_drop,Nat.add_zero,B8i hk,E8 hk];rfl
theorem W7.cell2{u wr:World}{A1 A2:Option Addr}{lx ly:List Nat}{k cy:Nat}(h:W7 u wr A1 A2 lx ly k cy)(hk:k<ly.length) :
  ∃b2,A2=some ⟨b2,0,none⟩/\wr.cell? ⟨b2,k,none⟩=some (.int .u64 (dg ly k:Nat)):=by
 obtain⟨zs,hcy,hz,hd,he,ho1,ho2,hne⟩:=h;obtain⟨b2,hb2,e2,hr2⟩:=ho2 (by rintro rfl;simp at hk);refine⟨b2,e2,?_⟩;rw[hr2.cell,B8i hk,E8 hk];rfl
theorem W7.addr{u wr:World}{A1 A2:Option Addr}{lx ly:List Nat}{k cy:Nat}(h:W7 u wr A1 A2 lx ly k cy)(hk:0<lx.length):∃bx,A1=some ⟨bx,0,none⟩:=by
 obtain⟨zs,hcy,hz,hd,he,ho1,ho2,hne⟩:=h
 obtain⟨b1,hb1,e1,hr1⟩:=ho1 (by
  intro e;have:=B9d List.length e;rw[List.length_append,hz,B9D,List.length_nil]at this
  omega)
 exact⟨b1,e1⟩
theorem W7.done{u wr:World}{A1 A2:Option Addr}{lx ly:List Nat}{k cy:Nat}(h:W7 u wr A1 A2 lx ly k cy)(hk:k=lx.length)(hly:ly.length<=lx.length) :
  ∃zs,zs.length=k/\cy<=1/\Dig W64 zs/\val W64 zs+val W64 ly=val W64 lx+cy*W64^k/\Own u wr A1 zs:=by
 obtain⟨zs,hcy,hz,hd,he,ho1,ho2,hne⟩:=h;rw[B8m (by omega),List.append_nil]at ho1;rw[A0H _ _ _ (by omega),A0H _ _ _ (by omega)]at he;exact⟨zs,hz,hcy,hd,he,ho1⟩
theorem B01(a b:Nat)(ha:bl a<=1099511627776)(hb:bl b<=1099511627776)(hs:¬a<W64)(hba:b<=a)(w:World):Calls Tryz.prog 185 #[B5 a,B5 b] w λe w'=>e = .returned (.tuple #[B5 (a-b),.bool true])/\A4 w w':=by
  have hE:(B8 a).toList.isEmpty=false:=by rw[Q4];simpa using hs
  have hcmp:∀W:World,Calls Tryz.prog 140 #[B5 a,B5 b] W λe w'=>e = .returned (.int .i64 (G4 a b))/\A4 W w':=λW=>A0G a b ha W;have hcz:0<=G4 a b:=by unfold G4;split<;>(try split)<;>omega
  have Hcmp:=B8S hcmp;clear hcmp;obtain⟨la,hla⟩:∃la,la=B4 W64 a:=⟨_,rfl⟩
  obtain⟨lb,hlb⟩:∃lb,lb=B4 W64 b:=⟨_,rfl⟩
  obtain⟨n1,hn1⟩:∃n,n=la.length:=⟨_,rfl⟩
  obtain⟨n2,hn2⟩:∃n,n=lb.length:=⟨_,rfl⟩
  have hwa:∀W:World,Calls Tryz.prog 148 #[B5 a] W λe w'=>∃A,e = .returned (.slice A n1 n1)/\Own W w' A la/\A4 W w':=by
    intro W;rw[hn1,hla];exact A01 a ha W
  have hwb:∀W:World,Calls Tryz.prog 148 #[B5 b] W λe w'=>∃A,e = .returned (.slice A n2 n2)/\Own W w' A lb/\A4 W w':=by
    intro W;rw[hn2,hlb];exact A01 b hb W
  have hm1:n1<=17179869184:=by rw[hn1,hla];exact A09 (by omega)
  have hm2:n2<=17179869184:=by rw[hn2,hlb];exact A09 (by omega)
  have Hwa:=B8S hwa;have Hwb:=B8S hwb;have hn21:n2<=n1:=by rw[hn1,hn2,hla,hlb];exact A3v E5 (by have h1:=K6 (G5 E5 a);rw[E3 E5]at h1;omega)
  have Hda:Hid (Dig W64 la):=by rw[hla];exact B8S (G5 E5 a)
  have Hdb:Hid (Dig W64 lb):=by rw[hlb];exact B8S (G5 E5 b)
  have Hla:=B8S hla;have Hlb:=B8S hlb;have Hn1:=B8S hn1;have Hn2:=B8S hn2;clear hwa hwb hla hlb hn1 hn2 ha hb hs;go_enter Tryz.func185,Tryz.ntmps185;refine B8N (B8A NoP.up (B8C ?_));go_wp2_with fail;generalize hu:World.alloc (World.alloc (World.alloc w _) _) _=u;obtain⟨hB,hG⟩:=A0A [(_,_),(_,_),(_,_)] w u hu;have hF:=A0S w [(44,#[]),(44,#[]),(44,#[])];simp only[O8,List.map_cons,List.map_nil]at hB hF;clear hu;generalize w.heap.size+1+1=b4 at hB hF⊢;generalize w.heap.size+1=b3 at hB hF⊢;generalize w.heap.size=b2 at hB hF⊢;refine NoP.norm (A6 ?_);have r:=hB.r;simp only[BxR]at r;go_wp2_with fail;refine(Hcmp.out _).mono ?_;rintro e u1 ⟨rfl,hgc⟩;replace hB:=hB.grow hgc;replace hG:=hG.trans hgc;clear r hgc u;have r:=hB.r;simp only[BxR]at r;go_wp2_with fail;clear r;obtain⟨u,rfl⟩:=exQ u1;refine A3U (w:=w) A8 5 [(0,0),(0,2),(1,1),(1,3),(0,4)] (by kernel_rfl) (by kernel_rfl) hB hG ?_;simp only[H6,List.getElem?_toArray,List.getElem?_cons_zero,List.getElem?_cons_succ]
  (apply gy
   · exact rfl
   · (rintro v ⟨-,hB,-⟩ N hN;have r:=hB.r;simp only[BxR]at r;go_simp;exact hN))
  (apply gy
   · exact rfl
   · (rintro v ⟨-,hB,-⟩ N hN;have r:=hB.r;simp only[BxR]at r;go_simp;exact hN))
  refine gx (Option Addr) (λA=>.slice A n1 n1) (λA v=>Own u v A la) (λA v v' hg h=>h.grow hg) rfl ?_ (λA1=>?_)
  · rintro v ⟨hgu,-,-⟩ N hN
    go_simp
    ((with_reducible refine(Hwa.out _).mono ?_);rintro e w1 ⟨A,rfl,hown,hg⟩;exact⟨_,rfl,hN A w1 (hown.since hgu) hg⟩)
  refine gx (Option Addr) (λA=>.slice A n2 n2) (λA v=>Own u v A lb/\(la≠[]->lb≠[]->A1≠A)) (λA v v' hg h=>⟨h.1.grow hg,h.2⟩) rfl ?_ (λA2=>?_)
  · rintro v ⟨⟨hgu,-,-⟩,ho1⟩ N hN
    go_simp
    ((with_reducible refine(Hwb.out _).mono ?_);rintro e w1 ⟨A,rfl,hown,hg⟩;exact⟨_,rfl,hN A w1 ⟨hown.since hgu,λh1 h2=>ho1.ne hown h1 h2⟩ hg⟩)
  (apply gy
   · exact rfl
   · (rintro v-N hN;go_simp;exact hN))
  refine H8 ?_;rintro v ⟨⟨⟨hgu,hB1,hG1⟩,ho1⟩,ho2,hne⟩;have hTwo:Two u v A1 A2 la lb:=⟨ho1,ho2,hne⟩
  have hq2:=hB.head.lt;have hq3:=hB.tail.head.lt;have hq4:=hB.tail.tail.head.lt;have hwu:=hG.size;clear ho1 ho2 hne hB hG;have HTwo:=B8S hTwo;clear hTwo;simp only[List.drop_succ_cons,List.drop_zero];go_wp2_with fail;refine NoP.norm ?_;go_wp2_with fail;go_loopw [8,31] (λc i wr=>∃k cy:Nat,k<=n1/\i = .int .i64 k/\c = .int .u64 cy/\W7 u wr A1 A2 la lb k cy/\Bx wr [(b2,44,#[.int .u64 (C4 a),.string (B8 a)]),(b3,44,#[.int .u64 (C4 b),.string (B8 b)]),(b4,44,#[.int .u64 0,.string ⟨#[]⟩])]/\A4 w wr/\u.heap.size<=wr.heap.size) (λ_ i _=>n1-(intOf i).toNat)
  case atStart=>exact⟨0,0,by omega,rfl,rfl,W7.start HTwo.out,hB1,hG1,hgu.size⟩
  case round =>
    obtain⟨k,cy,hk,rfl,rfl,hI,hB,hG,hus⟩:=hrel;have HI:=B8S hI;have HB:=B8S hB;have HG:=B8S hG;have hcy:cy<=1:=by obtain⟨zs,h,_⟩:=HI.out;exact h
    clear hI hB hG;rcases B73 k n1 with hkl|hkg
    · have hkl':k<la.length:=by rw[<-Hn1.out];exact hkl
      obtain⟨bx,rfl⟩:=HI.out.addr (by omega);obtain⟨hc1,hf1,hbx⟩:=HI.out.cell1 hkl';have Hnext:=B8S (HI.out.next Hda.out Hdb.out hkl');obtain⟨x,hx⟩:∃x,x=dg la k:=⟨_,rfl⟩
      obtain⟨o,ho⟩:∃o,o=dg lb k:=⟨_,rfl⟩
      rw[<-hx]at hc1 Hnext;rw[<-ho]at Hnext;obtain⟨sm,hsm⟩:∃sm,sm=(x+W64-o-cy)%W64:=⟨_,rfl⟩
      obtain⟨t,ht⟩:∃t,t=(if x<o+cy then 1 else 0):=⟨_,rfl⟩
      rw[<-hsm,<-ht]at Hnext;have hBn:∀sv,Bx (wr.setCell ⟨bx,k,none⟩ sv) [(b2,44,#[.int .u64 (C4 a),.string (B8 a)]),(b3,44,#[.int .u64 (C4 b),.string (B8 b)]),(b4,44,#[.int .u64 0,.string ⟨#[]⟩])]:=λsv=>HB.out.far_ (p:=⟨bx,k,none⟩) (by show ∀e∈_,_≠bx;simp;omega) sv;have HBn:=B8S hBn;have Hx:=B8S hx;have Ho:=B8S ho;clear hx ho hBn;by_cases hky:k<n2
      · obtain⟨by_,rfl,hc2⟩:=HI.out.cell2 (by rw[<-Hn2.out];exact hky)
        rw[<-Ho.out]at hc2;have hadd:=A2c x o cy hcy (x:Int) (o:Int) (cy:Int) rfl rfl rfl;rw[show(x+18446744073709551616-o-cy)%18446744073709551616=sm from hsm.symm,show(if x<o+cy then 1 else 0)=t from ht.symm]at hadd;clear hsm ht;go_wp2;go_roundw
        case rel=>exact⟨k+1,t,by omega,by go_num,rfl,Hnext.out,HBn.out _,HG.out.setCell (p:=⟨bx,k,none⟩) (by show _<=bx;omega) _,by simpa [World.setCell]using hus⟩
        case measure=>simp[intOf];omega
      · have hz:o=0:=by rw[Ho.out];exact A0u (by rw[<-Hn2.out];omega)
        have hadd:=A2c x o cy hcy (x:Int) 0 (cy:Int) rfl (by rw[hz];rfl) rfl;rw[show(x+18446744073709551616-o-cy)%18446744073709551616=sm from hsm.symm,show(if x<o+cy then 1 else 0)=t from ht.symm]at hadd;clear hsm ht hz;go_wp2;go_roundw
        case rel=>exact⟨k+1,t,by omega,by go_num,rfl,Hnext.out,HBn.out _,HG.out.setCell (p:=⟨bx,k,none⟩) (by show _<=bx;omega) _,by simpa [World.setCell]using hus⟩
        case measure=>simp[intOf];omega
    · obtain rfl:n1=k:=by omega
      obtain⟨zs,hz,_,hd,hval,hown⟩:=HI.out.done Hn1.out (by rw[<-Hn1.out,<-Hn2.out];omega);have hcy0:cy=0:=by
        have h1:=K6 hd;rw[hz]at h1;rcases B8M cy with h|h
        · exact h
        · exfalso
          obtain rfl:cy=1:=by omega
          rw[Hla.out,Hlb.out,E3 E5,E3 E5]at hval;omega
      subst hcy0;have hab:val W64 zs=a-b:=by
        rw[Hla.out,Hlb.out,E3 E5,E3 E5]at hval;omega
      have Hown:=B8S hown;have Hd:=B8S hd;have Hz:=B8S hz;have Hab:=B8S hab;clear hown hd hz hval hab;have hfw:Calls Tryz.prog 146 #[.slice A1 n1 n1] wr λe w'=>e = .returned (B5 (a-b))/\A4 wr w':=by
        have h1:=A0D A1 zs n1 wr Hown.out.rd Hd.out (by rw[Hz.out];exact K2 _) (by rw[Hz.out];omega) (by omega);rw[Hz.out,Hab.out]at h1;exact h1
      have Hfw:=B8S hfw;clear hfw;go_wp2_with (go_at_call 146;((with_reducible refine Hfw.out.mono ?_);rintro e w1 ⟨rfl,hg⟩;have hbb:=(HB.out.grow hg).tail.tail.head;have hc:=hbb.cell;have hf:=hbb.frozen));have h6:=((hbb.set_ 0 (.int .u64 (C4 (a-b)))).set_ 1 (.string (B8 (a-b)))).cell;simp only[List.setIfInBounds_toArray,List.set_cons_zero,List.set_cons_succ]at h6;have hwb4:w.heap.size<=b4:=hF.1 b4 (by simp);exact B8L (v:=.tuple #[B5 (a-b),.bool true]) (by simp[results,Tryz.results185,go_sem,h6]) rfl ⟨rfl,((HG.out.trans hg).setCell (p:=⟨b4,0,none⟩) hwb4 _).setCell (p:=⟨b4,1,none⟩) hwb4 _⟩
theorem B4Q(a b:Nat)(ha:bl a<=1099511627776)(hab:a<b)(w:World):Calls Tryz.prog 185 #[B5 a,B5 b] w λe w'=>e = .returned (.tuple #[B5 0,.bool false])/\A4 w w':=by
  have hcmp:∀W:World,Calls Tryz.prog 140 #[B5 a,B5 b] W λe w'=>e = .returned (.int .i64 (-1))/\A4 W w':=by
    intro W;have:=A0G a b ha W;rw[V4 hab]at this;exact this
  have Hcmp:=B8S hcmp;clear hcmp ha hab;go_enter Tryz.func185,Tryz.ntmps185;refine B8N (B8A NoP.up (B8C ?_));go_wp2_with fail;generalize hu:World.alloc (World.alloc (World.alloc w _) _) _=u;obtain⟨hB,hG⟩:=A0A [(_,_),(_,_),(_,_)] w u hu;have hF:=A0S w [(44,#[]),(44,#[]),(44,#[])];simp only[O8,List.map_cons,List.map_nil]at hB hF;clear hu;generalize w.heap.size+1+1=b4 at hB hF⊢;generalize w.heap.size+1=b3 at hB hF⊢;generalize w.heap.size=b2 at hB hF⊢;refine NoP.norm ?_;refine A6 ?_;refine B8N ?_;refine B8N ?_;refine A12 (w:=w) A8 4 [0,0,1,0] (by kernel_rfl) hB hG ?_;simp only[List.zip_cons_cons,List.zip_nil_left]
  (apply gy
   · exact rfl
   · (rintro v ⟨-,hB,hG⟩ N hN;have r:=hB.r;simp only[BxR]at r;go_simp;exact hN))
  (apply gy
   · exact rfl
   · (rintro v ⟨-,hB,hG⟩ N hN;have r:=hB.r;simp only[BxR]at r;go_simp;exact hN))
  (apply gm
   · exact rfl
   · (rintro v-N hN;go_simp;((with_reducible refine(Hcmp.out _).mono ?_);rintro e w1 ⟨rfl,hb⟩;exact⟨_,rfl,hN _ hb⟩)))
  (apply gy
   · exact rfl
   · (rintro v-N hN;go_simp;exact hN))
  refine H8 ?_;rintro v ⟨-,hB1,hG1⟩;clear hB hG;have hB:=hB1;have hG:=hG1;clear hB1 hG1;simp only[List.drop_succ_cons,List.drop_nil];refine wpList_nil ?_;refine NoP.norm ?_;refine A6 ?_;refine B88 rfl ?_ ?_
  · intro ht
    refine B8N ?_;refine A12 (w:=w) A8 1 [0] (by kernel_rfl) hB hG ?_;simp only[List.zip_cons_cons,List.zip_nil_left]
    (apply gy
     · exact rfl
     · (rintro v-N hN;go_simp;exact hN))
    refine H8 ?_;rintro v ⟨-,hB1,hG1⟩;clear hB hG;have hB:=hB1;have hG:=hG1;clear hB1 hG1;simp only[List.drop_succ_cons,List.drop_zero];have r:=hB.r;simp only[BxR]at r;go_wp2_with fail;clear r;generalize hu0:World.setCell (World.setCell v _ _) _ _=u0;have hBG:=hB.over hF hG 2 rfl 0 [_,_] hu0;clear hB hG hu0;simp only[List.modify_succ_cons,List.modify_zero_cons,I3,List.setIfInBounds_toArray,List.set_cons_zero,List.set_cons_succ,Nat.zero_add]at hBG;obtain⟨hB,hG⟩:=hBG;clear v;obtain⟨u,rfl⟩:=exQ u0;refine NoP.norm ?_;refine A6 ?_;refine B0f rfl ?_;intro N hN;have r:=hB.r;simp only[BxR]at r;simp only[results,Tryz.results185];go_simp;refine hN _ ?_;clear hN N r;exact⟨rfl,hG⟩
  · intro ht
    cases ht
theorem B3y(a b:Nat)(ha:a<W64)(hba:b<=a)(w:World):Calls Tryz.prog 185 #[B5 a,B5 b] w λe w'=>e = .returned (.tuple #[B5 (a-b),.bool true])/\A4 w w':=by
  have hcmp:∀W:World,Calls Tryz.prog 140 #[B5 a,B5 b] W λe w'=>e = .returned (.int .i64 (G4 a b))/\A4 W w':=λW=>A0G a b (B8K (A0T ha) (by omega)) W;have hcz:0<=G4 a b:=by unfold G4;split<;>(try split)<;>omega
  have hd:decide (G4 a b<0)=false:=by simpa using hcz
  rw[V9 ha,V9 (show b<W64 by omega),V9 (show a-b<W64 by omega)];rw[V9 ha,V9 (show b<W64 by omega)]at hcmp;have Hcmp:=B8S hcmp;have hw1:IntKind.u64.wrap ((a:Int)-(b:Int))=((a-b:Nat):Int):=by
    unfold W64 at ha;rw[u64_wrap_id (x:=(a:Int)-(b:Int)) (by omega) (by omega)];omega
  clear hcmp hcz;go_enter Tryz.func185,Tryz.ntmps185;refine B8N (B8A NoP.up (B8C ?_));go_wp2_with fail;generalize hu:World.alloc (World.alloc (World.alloc w _) _) _=u;obtain⟨hB,hG⟩:=A0A [(_,_),(_,_),(_,_)] w u hu;have hF:=A0S w [(44,#[]),(44,#[]),(44,#[])];simp only[O8,List.map_cons,List.map_nil]at hB hF;clear hu;generalize w.heap.size+1+1=b4 at hB hF⊢;generalize w.heap.size+1=b3 at hB hF⊢;generalize w.heap.size=b2 at hB hF⊢;refine NoP.norm ?_;refine A6 ?_;refine B8N ?_;refine B8N ?_;refine A12 (w:=w) A8 4 [0,0,1,0] (by kernel_rfl) hB hG ?_;simp only[List.zip_cons_cons,List.zip_nil_left]
  (apply gy
   · exact rfl
   · (rintro v ⟨-,hB,hG⟩ N hN;have r:=hB.r;simp only[BxR]at r;go_simp;exact hN))
  (apply gy
   · exact rfl
   · (rintro v ⟨-,hB,hG⟩ N hN;have r:=hB.r;simp only[BxR]at r;go_simp;exact hN))
  (apply gm
   · exact rfl
   · (rintro v-N hN;go_simp;((with_reducible refine(Hcmp.out _).mono ?_);rintro e w1 ⟨rfl,hb⟩;exact⟨_,rfl,hN _ hb⟩)))
  (apply gy
   · exact rfl
   · (rintro v-N hN;go_simp;exact hN))
  refine H8 ?_;rintro v ⟨-,hB1,hG1⟩;clear hB hG;have hB:=hB1;have hG:=hG1;clear hB1 hG1;simp only[List.drop_succ_cons,List.drop_nil];refine wpList_nil ?_;refine NoP.norm ?_;refine A6 ?_;refine B88 rfl ?_ ?_
  · intro ht
    cases ht
  · intro ht
    refine B8U ?_;refine A6 ?_;refine B8N ?_;refine B8N ?_;refine A12 (w:=w) A8 3 [0,0,0] (by kernel_rfl) hB hG ?_;simp only[List.zip_cons_cons,List.zip_nil_left]
    (apply gy
     · exact rfl
     · (rintro v-N hN;go_simp;exact hN))
    (apply gy
     · exact rfl
     · (rintro v ⟨-,hB,hG⟩ N hN;have r:=hB.r;simp only[BxR]at r;go_simp;exact hN))
    (apply gy
     · exact rfl
     · (rintro v-N hN;go_simp;exact hN))
    refine H8 ?_;rintro v ⟨-,hB1,hG1⟩;clear hB hG;have hB:=hB1;have hG:=hG1;clear hB1 hG1;simp only[List.drop_succ_cons,List.drop_nil];refine wpList_nil ?_;refine NoP.norm ?_;refine A6 ?_;refine B88 rfl ?_ ?_
    · intro ht
      refine B8N ?_;refine A12 (w:=w) A8 6 [0,0,0,0,0,0] (by kernel_rfl) hB hG ?_;simp only[List.zip_cons_cons,List.zip_nil_left]
      (apply gy
       · exact rfl
       · (rintro v-N hN;go_simp;exact hN))
      (apply gy
       · exact rfl
       · (rintro v ⟨-,hB,hG⟩ N hN;have r:=hB.r;simp only[BxR]at r;go_simp;exact hN))
      (apply gy
       · exact rfl
       · (rintro v-N hN;go_simp;exact hN))
      (apply gy
       · exact rfl
       · (rintro v ⟨-,hB,hG⟩ N hN;have r:=hB.r;simp only[BxR]at r;go_simp;exact hN))
      (apply gy
       · exact rfl
       · (rintro v-N hN;go_simp;exact hN))
      (apply gy
       · exact rfl
       · (rintro v-N hN;go_simp;exact hN))
      refine H8 ?_;rintro v ⟨-,hB1,hG1⟩;clear hB hG;have hB:=hB1;have hG:=hG1;clear hB1 hG1;simp only[List.drop_succ_cons,List.drop_zero];have r:=hB.r;simp only[BxR]at r;go_wp2_with fail;clear r;generalize hu0:World.setCell (World.setCell v _ _) _ _=u0;have hBG:=hB.over hF hG 2 rfl 0 [_,_] hu0;clear hB hG hu0;simp only[List.modify_succ_cons,List.modify_zero_cons,I3,List.setIfInBounds_toArray,List.set_cons_zero,List.set_cons_succ,Nat.zero_add]at hBG;obtain⟨hB,hG⟩:=hBG;clear v;obtain⟨u,rfl⟩:=exQ u0;refine NoP.norm ?_;refine A6 ?_;refine B0f rfl ?_;intro N hN;have r:=hB.r;simp only[BxR]at r;simp only[results,Tryz.results185];go_simp;refine hN _ ?_;clear hN N r;exact⟨rfl,hG⟩
    · intro ht
      cases ht
theorem B5C(a b:Nat)(ha:bl a<=1099511627776)(hba:b<=a)(w:World):Calls Tryz.prog 185 #[B5 a,B5 b] w λe w'=>e = .returned (.tuple #[B5 (a-b),.bool true])/\A4 w w':=by
 by_cases hs:a<W64
 ·exact B3y a b hs hba w
 ·exact B01 a b ha (B8K (S8 hba) ha) hs hba w
end Go.Proofs.YtgpglgbcobeogaaGreatDoor
