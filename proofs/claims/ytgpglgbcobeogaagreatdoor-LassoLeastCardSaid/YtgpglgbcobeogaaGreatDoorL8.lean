import Derived.Test.YtgpglgbcobeogaaGreatDoorL7
set_option linter.unusedSimpArgs false
set_option linter.unusedVariables false
set_option maxHeartbeats 2000000
set_option maxRecDepth 100000
namespace Go.Proofs.YtgpglgbcobeogaaGreatDoor
open Go.RowKit
def A24(wr:World)(b:Nat)(l1 l2:List Nat)(i:Nat)(zs:List Nat):Prop :=
 zs.length=l1.length+l2.length/\Dig W64 zs/\val W64 zs=val W64 (l1.take i)*val W64 l2/\(∀t,i+l2.length<=t->dg zs t=0)/\D8 wr b zs
def A04(wr:World)(b:Nat)(l1 l2:List Nat)(i j c:Nat)(zs:List Nat):Prop :=
 zs.length=l1.length+l2.length/\Dig W64 zs/\c<W64/\val W64 zs+c*W64^(i+j)=val W64 (l1.take i)*val W64 l2+W64^i*(dg l1 i*val W64 (l2.take j))/\(∀t,i+l2.length<=t->dg zs t=0)/\D8 wr b zs
theorem A24.inner{wr:World}{b:Nat}{l1 l2:List Nat}{i:Nat}{zs:List Nat}(h:A24 wr b l1 l2 i zs):A04 wr b l1 l2 i 0 0 zs :=
 ⟨h.1,h.2.1,C6,by rw[h.2.2.1];simp[val],h.2.2.2⟩
theorem A04.cell{wr:World}{b:Nat}{l1 l2:List Nat}{i j c:Nat}{zs:List Nat}(h:A04 wr b l1 l2 i j c zs){t:Nat}(ht:t<l1.length+l2.length) :
  wr.cell? ⟨b,t,none⟩=some (.int .u64 (dg zs t:Nat))/\wr.frozen? ⟨b,t,none⟩=false:=by
 obtain⟨hl,hd,hc,hv,hz,hr⟩:=h;have ht':t<zs.length:=by rw[hl];exact ht
 refine⟨?_,hr.frozen t⟩;rw[hr.cell,B8i ht',E8 ht'];rfl
theorem A04.next{wr:World}{b:Nat}{l1 l2:List Nat}{i j c:Nat}{zs:List Nat}(h:A04 wr b l1 l2 i j c zs)(h1:Dig W64 l1)(h2:Dig W64 l2)(hi:i<l1.length)(hj:j<l2.length) :
  A04 (wr.setCell ⟨b,i+j,none⟩ (.int .u64 ((dg l1 i*dg l2 j+dg zs (i+j)+c)%W64:Nat))) b l1 l2 i (j+1) ((dg l1 i*dg l2 j+dg zs (i+j)+c)/W64) (zs.set (i+j) ((dg l1 i*dg l2 j+dg zs (i+j)+c)%W64)):=by
 obtain⟨hl,hd,hc,hv,hz,hr⟩:=h;refine⟨by rw[B8r,hl],S7 hd _ (B8b _ C6),(A5C (D1 C6 h1 i) (D1 C6 h2 j) (D1 C6 hd _) hc).2.2,?_,λt ht=>?_,hr.set _ _⟩
 ·rw[<-B9g];exact A8N (by rw[hl];omega) hv
 ·rw[R4 _ _ (by omega)];exact hz t ht
theorem A04.outer{wr:World}{b:Nat}{l1 l2:List Nat}{i c:Nat}{zs:List Nat}(h:A04 wr b l1 l2 i l2.length c zs)(hi:i<l1.length) :
  A24 (wr.setCell ⟨b,i+l2.length,none⟩ (.int .u64 (c:Nat))) b l1 l2 (i+1) (zs.set (i+l2.length) c):=by
 obtain⟨hl,hd,hc,hv,hz,hr⟩:=h;have hlt:i+l2.length<zs.length:=by rw[hl];omega
 refine⟨by rw[B8r,hl],S7 hd _ hc,?_,λt ht=>?_,hr.set _ _⟩
 ·have h1:=Y7 W64 zs (i+l2.length) c hlt;rw[hz _ (K2 _),B9N,Nat.add_zero]at h1;rw[A0H W64 l2 _ (K2 _)]at hv;rw[h1,N2,B9h,B8t (W64^(i+l2.length)) c,hv];grind
 ·rw[R4 _ _ (by omega)];exact hz t (by omega)
theorem B5r(A1 A2:Option Addr)(l1 l2:List Nat)(c1 c2:Nat)(w:World)(hr1:Rd w A1 l1)(hr2:Rd w A2 l2)(hd1:Dig W64 l1)(hd2:Dig W64 l2)(hm:l1.length+l2.length<=34359738368) :
  Calls Tryz.prog 147 #[.slice A1 l1.length c1,.slice A2 l2.length c2] w λe w'=>∃zs,e = .returned (.slice (some ⟨w.heap.size,0,none⟩) zs.length zs.length)/\D8 w' w.heap.size zs/\zs.length=l1.length+l2.length/\Dig W64 zs/\val W64 zs=val W64 l1*val W64 l2/\A4 w w':=by
 obtain⟨n1,hn1⟩:∃n,n=l1.length:=⟨_,rfl⟩
 obtain⟨n2,hn2⟩:∃n,n=l2.length:=⟨_,rfl⟩
 rw[<-hn1,<-hn2]at hm;rw[<-hn1,<-hn2];have hmk:=A1X (n1+n2) (by omega) ((n1:Int)+(n2:Int)) (by omega);have Hr1:=B8S hr1;have Hr2:=B8S hr2;have Hd1:=B8S hd1;have Hd2:=B8S hd2;have Hn1:=B8S hn1;have Hn2:=B8S hn2
 have hs0:A24 (w.alloc (.cells (D3 (List.replicate (n1+n2) 0)) 42)) w.heap.size l1 l2 0 (List.replicate (n1+n2) 0) :=
  ⟨by simp[hn1,hn2],λx hx=>by rw[(List.mem_replicate.1 hx).2];exact C6,by simp[A1S,val],λt _=>by
   unfold dg;rw[B9f];split<;>rfl,Blk.new w 42 _⟩
 have Hs0:=B8S hs0;clear hr1 hr2 hd1 hd2 hn1 hn2 hs0;go_enter Tryz.func147,Tryz.ntmps147;go_wp2_with fail;clear hmk;go_loopw [23] (λi wr=>∃(k:Nat) (zs:List Nat),k<=n1/\i = .int .i64 k/\A24 wr w.heap.size l1 l2 k zs/\A4 w wr) (λi _=>n1-(intOf i).toNat)
 case atStart=>exact⟨0,_,by omega,rfl,Hs0.out,A4.alloc _ _⟩
 case round =>
  obtain⟨k,zs,hk,rfl,hI,hG⟩:=hrel;have HI:=B8S hI;have HG:=B8S hG;clear hI hG;rcases B73 k n1 with hkl|hkg
  ·have hk1:k<l1.length:=by rw[<-Hn1.out];exact hkl
   obtain⟨b1,o1,rfl,hw1⟩:=(Hr1.out.grow HG.out) (by rintro rfl;simp at hk1)
   have hc:=hw1.cell hk1;rw[<-E8 hk1]at hc;obtain⟨m,hmd⟩:∃m,m=dg l1 k:=⟨_,rfl⟩
   rw[<-hmd]at hc;have hmW:m<18446744073709551616:=by rw[hmd];exact D1 C6 Hd1.out k
   have Hmd:=B8S hmd;clear hmd hw1;have hdj:decide ((k:Int)<(n1:Int))=true:=by simp;omega
   go_wp2_with fail;go_loopw [8,30] (λcy i wi=>∃(j c:Nat) (zs:List Nat),j<=n2/\i = .int .i64 j/\cy = .int .u64 c/\A04 wi w.heap.size l1 l2 k j c zs/\A4 w wi) (λ_ i _=>n2-(intOf i).toNat)
   case atStart=>exact⟨0,0,zs,by omega,rfl,rfl,HI.out.inner,HG.out⟩
   case round =>
    obtain⟨j,c,zs,hj,rfl,rfl,hJ,hG⟩:=hrel;have HJ:=B8S hJ;have HG2:=B8S hG;clear hJ hG;rcases B73 j n2 with hjl|hjg
    ·have hj2:j<l2.length:=by rw[<-Hn2.out];exact hjl
     obtain⟨b2,o2,rfl,hw2⟩:=(Hr2.out.grow HG2.out) (by rintro rfl;simp at hj2)
     have hcy:=hw2.cell hj2;rw[<-E8 hj2]at hcy;obtain⟨hco,hfo⟩:=HJ.out.cell (t:=k+j) (by rw[<-Hn1.out,<-Hn2.out];omega);have hnext:=HJ.out.next Hd1.out Hd2.out hk1 hj2;have hdig:=A5C (D1 C6 Hd1.out k) (D1 C6 Hd2.out j) (D1 C6 HJ.out.2.1 (k+j)) HJ.out.2.2.1;have hyW:=D1 C6 Hd2.out j;have hdW:=D1 C6 HJ.out.2.1 (k+j);have hcW:=HJ.out.2.2.1;rw[<-Hmd.out]at hnext hdig;obtain⟨y,hy⟩:∃y,y=dg l2 j:=⟨_,rfl⟩
     obtain⟨d,hd⟩:∃d,d=dg zs (k+j):=⟨_,rfl⟩
     rw[<-hy]at hcy hnext hdig hyW;rw[<-hd]at hco hnext hdig hdW;obtain⟨hi,hhi⟩:∃q,q=m*y/W64:=⟨_,rfl⟩
     obtain⟨lo,hlo⟩:∃q,q=m*y%W64:=⟨_,rfl⟩
     rw[<-hhi,<-hlo]at hdig;obtain⟨s1,hs1⟩:∃q,q=(lo+d)%W64:=⟨_,rfl⟩
     obtain⟨e1,he1⟩:∃q,q=(lo+d)/W64:=⟨_,rfl⟩
     rw[<-hs1,<-he1]at hdig;obtain⟨s2,hs2⟩:∃q,q=(s1+c)%W64:=⟨_,rfl⟩
     obtain⟨e2,he2⟩:∃q,q=(s1+c)/W64:=⟨_,rfl⟩
     rw[<-hs2,<-he2]at hdig;rw[<-hdig.1,<-hdig.2.1]at hnext;have hsum:hi+e1+e2<18446744073709551616:=by rw[hdig.2.1];exact hdig.2.2
     have hmul:∀W:World,Calls Tryz.prog 145 #[.int .u64 (m:Int),.int .u64 (y:Int)] W λe w'=>e = .returned (.tuple #[.int .u64 (hi:Int),.int .u64 (lo:Int)])/\W=w':=by
      intro W;refine(Tryz.bits_Mul64 m y hmW hyW W).mono λe w' ⟨he,hw⟩=>⟨?_,hw.symm⟩
      rw[he,hhi,hlo];rfl
     have hadd1:=Z5 lo d 0 (by omega) (lo:Int) (d:Int) 0 rfl rfl rfl;rw[show(lo+d+0)%18446744073709551616=s1 from hs1.symm,show(lo+d+0)/18446744073709551616=e1 from he1.symm]at hadd1;have hadd2:=Z5 s1 c 0 (by omega) (s1:Int) (c:Int) 0 rfl rfl rfl;rw[show(s1+c+0)%18446744073709551616=s2 from hs2.symm,show(s1+c+0)/18446744073709551616=e2 from he2.symm]at hadd2;have Hnext:=B8S hnext;have Hmul:=B8S hmul;clear hhi hlo hs1 he1 hs2 he2 hy hd hdig hnext hmul hw2 hyW hdW hcW hmW;go_wp2_with (go_at_call 145;((with_reducible refine(Hmul.out _).mono ?_);rintro e w1 ⟨rfl,rfl⟩));go_roundw
     case rel=>exact⟨j+1,hi+e1+e2,_,by omega,by go_num,by go_num,Hnext.out,HG2.out.setCell (p:=⟨w.heap.size,k+j,none⟩) (K2 _) _⟩
     case measure=>simp[intOf];omega
    ·obtain rfl:n2=j:=by omega
     obtain⟨hco,hfo⟩:=HJ.out.cell (t:=k+n2) (by rw[<-Hn1.out,<-Hn2.out];omega);have hJ:=HJ.out;rw[Hn2.out]at hJ;have hout:=hJ.outer hk1;rw[<-Hn2.out]at hout;have Hout:=B8S hout;clear hout hJ;go_wp2_with fail;go_roundw
     case rel=>exact⟨k+1,_,by omega,by go_num,Hout.out,HG2.out.setCell (p:=⟨w.heap.size,k+n2,none⟩) (K2 _) _⟩
     case measure=>simp[intOf];omega
  ·obtain rfl:n1=k:=by omega
   go_wp2_with fail;go_ret;obtain⟨h1,h2,h3,h4,h5⟩:=HI.out;refine⟨zs,?_,h5,by rw[h1,Hn1.out,Hn2.out],h2,by rw[h3,A0H _ _ _ (by rw[Hn1.out];exact K2 _)],HG.out⟩;rw[h1,<-Hn1.out,<-Hn2.out];rfl
theorem B2a(a b:Nat)(ha:a<W64)(hb:b<W64)(hs:a*b<W64)(w:World):Calls Tryz.prog 88 #[B5 a,B5 b] w λe w'=>e = .returned (B5 (a*b))/\A4 w w':=by
 have hmul:∀W:World,Calls Tryz.prog 145 #[.int .u64 (a:Int),.int .u64 (b:Int)] W λe w'=>e = .returned (.tuple #[.int .u64 0,.int .u64 ((a*b:Nat):Int)])/\W=w':=by
  intro W;refine(Tryz.bits_Mul64 a b ha hb W).mono λe w' ⟨he,hw⟩=>⟨?_,hw.symm⟩
  unfold W64 at hs;rw[he,B80 hs,Nat.mod_eq_of_lt hs];rfl
 rw[V9 ha,V9 hb,V9 hs];have Hmul:=B8S hmul;clear hmul ha hb hs;go_enter Tryz.func88,Tryz.ntmps88;go_wp2_with (go_at_call 145;((with_reducible refine(Hmul.out _).mono ?_);rintro e w1 ⟨rfl,rfl⟩));exact B8L (v:=.agg #[.int .u64 ((a*b:Nat):Int),.string ⟨#[]⟩]) (by simp[results,Tryz.results88,go_sem]) rfl ⟨rfl,((A4.alloc _ _).trans (A4.alloc _ _)).trans (A4.alloc _ _)⟩
theorem B3A(a b:Nat)(ha:a<W64)(hb:b<W64)(hs:W64<=a*b)(w:World):Calls Tryz.prog 88 #[B5 a,B5 b] w λe w'=>e = .returned (B5 (a*b))/\A4 w w':=by
 rw[V9 ha,V9 hb];obtain⟨s,hs1⟩:∃s,s=a*b%W64:=⟨_,rfl⟩
 obtain⟨t,ht1⟩:∃t,t=a*b/W64:=⟨_,rfl⟩
 have hv:val W64 [s,t]=a*b:=by rw[O7,O7,A6k,B9N,Nat.add_zero,hs1,ht1,B9i]
 have hd:Dig W64 [s,t]:=by
  intro x hx;simp only[List.mem_cons,List.not_mem_nil,or_false]at hx;rcases hx with h|h
  ·rw[h,hs1];exact B8b _ C6
  ·rw[h,ht1];refine B9e ?_;exact B8X (Nat.mul_lt_mul_of_lt_of_le ha (B8B hb) C6) (K2 _)
 have ht0:((t:Int) == 0)=false:=by
  have:t≠0:=by
   rw[ht1];intro h;rcases Nat.div_eq_zero_iff.1 h with h|h
   ·have:=C6;omega
   ·omega
  simpa using this
 have hmul:∀W:World,Calls Tryz.prog 145 #[.int .u64 (a:Int),.int .u64 (b:Int)] W λe w'=>e = .returned (.tuple #[.int .u64 (t:Int),.int .u64 (s:Int)])/\W=w':=by
  intro W;refine(Tryz.bits_Mul64 a b ha hb W).mono λe w' ⟨he,hw⟩=>⟨?_,hw.symm⟩
  rw[he,hs1,ht1];rfl
 have Hmul:=B8S hmul;have hfw:∀W:World,D8 W (w.heap.size+1+1+1) [s,t]->Calls Tryz.prog 146 #[.slice (some ⟨w.heap.size+1+1+1,0,none⟩) 2 2] W λe w'=>e = .returned (B5 (a*b))/\A4 W w':=by
  intro W hW;rw[<-hv];exact A0D _ [s,t] 2 W (λ_=>⟨_,_,rfl,hW.wds⟩) hd (by simp) (by simp) (by omega)
 have Hfw:=B8S hfw;clear hfw hv hd hs1 ht1 hs ha hb hmul;go_enter Tryz.func88,Tryz.ntmps88;go_wp2_with (go_at_call 145;((with_reducible refine(Hmul.out _).mono ?_);rintro e w1 ⟨rfl,rfl⟩));have hbox:∀u:World,A4 ((((w.alloc (.cells #[.int .u64 a,.string ⟨#[]⟩] 44)).alloc (.cells #[.int .u64 b,.string ⟨#[]⟩] 44)).alloc (.cells #[.int .u64 0,.string ⟨#[]⟩] 44)).alloc (.cells #[.int .u64 s,.int .u64 t] 42)) u->Blk u (w.heap.size+1+1) 44 #[.int .u64 0,.string ⟨#[]⟩]:=by
  intro u hu;have h:=((Blk.new ((w.alloc (.cells #[.int .u64 a,.string ⟨#[]⟩] 44)).alloc (.cells #[.int .u64 b,.string ⟨#[]⟩] 44)) 44 #[.int .u64 0,.string ⟨#[]⟩]).grow (A4.alloc _ _)).grow hu;rw[I7,I7]at h;exact h
 have Hbox:=B8S hbox;clear hbox;refine(Hfw.out _ ?_).mono ?_
 ·have h:=Blk.new (((w.alloc (.cells #[.int .u64 a,.string ⟨#[]⟩] 44)).alloc (.cells #[.int .u64 b,.string ⟨#[]⟩] 44)).alloc (.cells #[.int .u64 0,.string ⟨#[]⟩] 44)) 42 #[.int .u64 s,.int .u64 t];rw[I7,I7,I7]at h;exact h
 rintro e w1 ⟨rfl,hg⟩;have hb:=Hbox.out w1 hg;have hc:=hb.cell;have hf:=hb.frozen;have HG:=B8S ((((A4.alloc w _).trans (A4.alloc _ _)).trans ((A4.alloc _ _).trans (A4.alloc _ _))).trans hg);have Hb:=B8S hb;clear hb hg;go_wp2_with fail;have h6:=((Hb.out.set_ 0 (.int .u64 (C4 (a*b)))).set_ 1 (.string (B8 (a*b)))).cell;simp only[List.setIfInBounds_toArray,List.set_cons_zero,List.set_cons_succ]at h6;exact B8L (v:=B5 (a*b)) (by simp[results,Tryz.results88,go_sem,h6]) rfl ⟨rfl,(HG.out.setCell (p:=⟨w.heap.size+1+1,0,none⟩) (by show _<=w.heap.size+1+1;omega) _).setCell (p:=⟨w.heap.size+1+1,1,none⟩) (by show _<=w.heap.size+1+1;omega) _⟩
theorem B4R(a b:Nat)(ha:bl a<=1099511627776)(hb:bl b<=1099511627776)(hs:¬(a<W64/\b<W64))(w:World):Calls Tryz.prog 88 #[B5 a,B5 b] w λe w'=>e = .returned (B5 (a*b))/\A4 w w':=by
  have hT:∃b1 b2:Bool,(B8 a).toList.isEmpty=b1/\(B8 b).toList.isEmpty=b2/\(b1&&b2)=false:=by
    refine⟨_,_,rfl,rfl,?_⟩;rw[Q4,Q4,B8z,decide_eq_false_iff_not,decide_eq_false_iff_not];omega
  obtain⟨b1,b2,hb1,hb2,hb12⟩:=hT;obtain⟨la,hla⟩:∃la,la=B4 W64 a:=⟨_,rfl⟩
  obtain⟨lb,hlb⟩:∃lb,lb=B4 W64 b:=⟨_,rfl⟩
  have hwa:∀W:World,Calls Tryz.prog 148 #[B5 a] W λe w'=>∃A,e = .returned (.slice A la.length la.length)/\Own W w' A la/\A4 W w':=by
    intro W;rw[hla];exact A01 a ha W
  have hwb:∀W:World,Calls Tryz.prog 148 #[B5 b] W λe w'=>∃A,e = .returned (.slice A lb.length lb.length)/\Own W w' A lb/\A4 W w':=by
    intro W;rw[hlb];exact A01 b hb W
  have hm1:la.length<=17179869184:=by rw[hla];exact A09 (by omega)
  have hm2:lb.length<=17179869184:=by rw[hlb];exact A09 (by omega)
  have hda:Dig W64 la:=by rw[hla];exact G5 E5 a
  have hdb:Dig W64 lb:=by rw[hlb];exact G5 E5 b
  have hv:val W64 la*val W64 lb=a*b:=by rw[hla,hlb,E3 E5,E3 E5]
  have Hwa:=B8S hwa;have Hwb:=B8S hwb;have Hda:=B8S hda;have Hdb:=B8S hdb;have Hv:=B8S hv;clear hwa hwb hla hlb ha hb hs hda hdb hv;cases b1<;>cases b2<;>first|(exact absurd hb12 (by decide))|skip
  all_goals
    clear hb12;go_enter Tryz.func88,Tryz.ntmps88;go_wp2_with fail;clear hb1 hb2;generalize hu:World.alloc (World.alloc (World.alloc w _) _) _=u;obtain⟨hB,hG⟩:=A0A [(_,_),(_,_),(_,_)] w u hu;have hF:=A0S w [(44,#[]),(44,#[]),(44,#[])];simp only[O8,List.map_cons,List.map_nil]at hB hF;clear hu;generalize w.heap.size+1+1=b4 at hB hF⊢;generalize w.heap.size+1=b3 at hB hF⊢;generalize w.heap.size=b2 at hB hF⊢;refine A3U (w:=w) A8 6 [(0,0),(0,2),(1,1),(1,3),(1,4),(1,5)] (by kernel_rfl) (by kernel_rfl) hB hG ?_;simp only[H6,List.getElem?_toArray,List.getElem?_cons_zero,List.getElem?_cons_succ]
    (apply gy
     · exact rfl
     · (rintro v ⟨-,hB,-⟩ N hN;have r:=hB.r;simp only[BxR]at r;go_simp;exact hN))
    (apply gy
     · exact rfl
     · (rintro v ⟨-,hB,-⟩ N hN;have r:=hB.r;simp only[BxR]at r;go_simp;exact hN))
    refine gx (Option Addr) (λA=>.slice A la.length la.length) (λA v=>Rd v A la) (λA v v' hg h=>h.grow hg) rfl ?_ (λA1=>?_)
    · rintro v-N hN
      go_simp
      ((with_reducible refine(Hwa.out _).mono ?_);rintro e w1 ⟨A,rfl,hown,hg⟩;exact⟨_,rfl,hN A w1 hown.rd hg⟩)
    refine gx (Option Addr) (λA=>.slice A lb.length lb.length) (λA v=>Rd v A lb) (λA v v' hg h=>h.grow hg) rfl ?_ (λA2=>?_)
    · rintro v-N hN
      go_simp
      ((with_reducible refine(Hwb.out _).mono ?_);rintro e w1 ⟨A,rfl,hown,hg⟩;exact⟨_,rfl,hN A w1 hown.rd hg⟩)
    refine gx (Nat×List Nat) (λx=>.slice (some ⟨x.1,0,none⟩) x.2.length x.2.length) (λx v=>D8 v x.1 x.2/\x.2.length=la.length+lb.length/\Dig W64 x.2/\val W64 x.2=a*b) (λx v v' hg h=>⟨h.1.grow hg,h.2⟩) rfl ?_ (λ⟨bz,zs⟩=>?_)
    · rintro v ⟨⟨-,hr1⟩,hr2⟩ N hN
      go_simp
      ((with_reducible refine(B5r A1 A2 la lb _ _ v hr1 hr2 Hda.out Hdb.out (by omega)).mono ?_);rintro e w1 ⟨zs,rfl,hrow,hl,hd,hvl,hg⟩;exact⟨_,rfl,hN (v.heap.size,zs) w1 ⟨hrow,hl,hd,by rw[hvl,Hv.out]⟩ hg⟩)
    refine gm (B5 (a*b)) rfl ?_ ?_
    · rintro v ⟨-,hrow,hl,hd,hvl⟩ N hN
      replace hrow:D8 v bz zs:=hrow;replace hl:zs.length=la.length+lb.length:=hl;replace hd:Dig W64 zs:=hd;replace hvl:val W64 zs=a*b:=hvl;have hrd:Rd v (some ⟨bz,0,none⟩) zs:=λ_=>⟨_,_,rfl,hrow.wds⟩
      have hfw:Calls Tryz.prog 146 #[.slice (some ⟨bz,0,none⟩) zs.length zs.length] v λe w'=>e = .returned (B5 (a*b))/\A4 v w':=by
        rw[<-hvl];exact A0D _ zs _ v hrd hd (K2 _) (by omega) (by omega)
      clear hvl hl hd hrd hrow;go_simp
      ((with_reducible refine hfw.mono ?_);rintro e w1 ⟨rfl,hg⟩;exact⟨_,rfl,hN _ hg⟩)
    refine H8 ?_;rintro v ⟨⟨⟨⟨-,hB1,hG1⟩,-⟩,-⟩,-⟩;clear hB hG;have hbb:=hB1.tail.tail.head;have hc:=hbb.cell;have hf:=hbb.frozen;simp only[List.drop_succ_cons,List.drop_zero];go_wp2_with fail;refine NoP.norm ?_;go_wp2_with fail;have h6:=((hbb.set_ 0 (.int .u64 (C4 (a*b)))).set_ 1 (.string (B8 (a*b)))).cell;simp only[List.setIfInBounds_toArray,List.set_cons_zero,List.set_cons_succ]at h6;have hwb4:w.heap.size<=b4:=hF.1 b4 (by simp);exact B8L (v:=B5 (a*b)) (by simp[results,Tryz.results88,go_sem,h6]) rfl ⟨rfl,(hG1.setCell (p:=⟨b4,0,none⟩) hwb4 _).setCell (p:=⟨b4,1,none⟩) hwb4 _⟩
theorem A6I(a b:Nat)(ha:bl a<=1099511627776)(hb:bl b<=1099511627776)(w:World):Calls Tryz.prog 88 #[B5 a,B5 b] w λe w'=>e = .returned (B5 (a*b))/\A4 w w':=by
 by_cases hs:a<W64/\b<W64
 ·rcases B73 (a*b) W64 with h|h
  ·exact B2a a b hs.1 hs.2 h w
  ·exact B3A a b hs.1 hs.2 h w
 ·exact B4R a b ha hb hs w
theorem bits_LeadingZeros64(x:Nat)(hx:x<W64)(w:World) :
  Calls Tryz.prog 198 #[.int .u64 x] w λe w'=>e = .returned (.int .i64 (64-bl x:Nat))/\w'=w :=
 (Tryz.bits_LeadingZeros64 (x:Int) w (by omega) (by unfold W64 at hx;omega)).mono λe w' ⟨he,hw⟩=>⟨by
  rw[he,Int.toNat_natCast,A9e _ (by unfold W64 at hx;omega)];have:=A0T hx
  rw[Int.ofNat_sub this];rfl,hw⟩
theorem D4{a:Nat}(h:a<18446744073709551616):IntKind.u64.wrap (a:Int)=(a:Nat):=by rw[IntKind.wrap_u64];omega
theorem A3N{a:Nat}:IntKind.u64.wrap (a:Int)=((a%18446744073709551616:Nat):Int):=by rw[IntKind.wrap_u64];omega
theorem B4J(lo y:Nat)(hp:0<y)(hlo:lo<W64)(w:World) :
  Calls Tryz.prog 197 #[.int .u64 0,.int .u64 lo,.int .u64 y] w λe w'=>e = .returned (.tuple #[.int .u64 (lo/y:Nat),.int .u64 (lo%y:Nat)])/\A4 w w':=by
 have h1:((y:Int) == 0)=false:=by simp;omega
 have h1':(y:Int)≠0:=by omega
 have h3:decide ((y:Int)<=(0:Int))=false:=by simp;omega
 have hq:IntKind.u64.wrap ((lo:Int)/(y:Int))=(lo:Int)/(y:Int):=by
  rw[<-Int.natCast_ediv];exact D4 (B8O (B8P _ _) hlo)
 go_enter Tryz.func197,Tryz.ntmps197;go_wp2_with fail;go_quiet (fail);go_wp2;go_ret2;exact⟨by simp,T2 _ _⟩
theorem A7u(u n q Y r:Nat)(h:u*4294967296+n=q*Y+r)(hr:r<18446744073709551616) :
  IntKind.u64.wrap (IntKind.u64.wrap (IntKind.u64.wrap ((u:Int)*4294967296)+(n:Int))-IntKind.u64.wrap ((q:Int)*(Y:Int)))=(r:Nat):=by
 have h':(u:Int)*4294967296+n=(q:Int)*Y+r :=
  calc (u:Int)*4294967296+n=((u*4294967296+n:Nat):Int):=by rw[Int.natCast_add,Int.natCast_mul];rfl
   _=((q*Y+r:Nat):Int):=by rw[h]
   _=_:=by rw[Int.natCast_add,Int.natCast_mul]
 simp only[IntKind.wrap_u64];rw[Int.emod_add_emod,<-Int.sub_emod,h',show(q:Int)*Y+r-(q:Int)*Y=r by generalize (q:Int)*Y=m;omega];omega
theorem A5a{y1 y0 u n q r:Nat}(h:DG 4294967296 y1 y0 u n q r)(hy0:y0<4294967296)(hn:n<4294967296) :
  ∃m1 m2 m3:Nat,IntKind.u64.wrap (4294967296*(r:Int))=(m1:Nat)/\IntKind.u64.wrap ((m1:Int)+(n:Int))=(m3:Nat)/\(q<4294967296->IntKind.u64.wrap ((q:Int)*(y0:Int))=(m2:Nat))/\m3=4294967296*r+n/\m2=q*y0:=by
 have hr:=h.2.2.1;refine⟨4294967296*r,q*y0,4294967296*r+n,?_,?_,λhq=>?_,rfl,rfl⟩
 ·rw[show(4294967296*(r:Int))=((4294967296*r:Nat):Int)by simp];exact D4 (by omega)
 ·rw[show(((4294967296*r:Nat):Int)+(n:Int))=((4294967296*r+n:Nat):Int)by omega];exact D4 (by omega)
 ·rw[show((q:Int)*(y0:Int))=((q*y0:Nat):Int)by simp];exact D4 (B8O (B9p (Nat.le_of_lt_succ hq) (Nat.le_of_lt_succ hy0)) (by omega))
theorem B4O{y:Nat}(h:y≠0)(h64:bl y<=64):y*2^(64-bl y)<18446744073709551616/\9223372036854775808<=y*2^(64-bl y):=by
 have h1:=A0Y y;have h2:2^(bl y-1)<=y:=A05.1 (by have:=U9.2 h;omega);have e1:2^bl y*2^(64-bl y)=18446744073709551616:=by rw[<-B8a,show bl y+(64-bl y)=64 by omega]
 have e2:2^(bl y-1)*2^(64-bl y)=9223372036854775808:=by rw[<-B8a,show bl y-1+(64-bl y)=63 by have:=U9.2 h;omega]
 have hp:0<2^(64-bl y):=Nat.two_pow_pos _;exact⟨by rw[<-e1];exact B9s h1 hp,by rw[<-e2];exact B8q _ h2⟩
theorem B1D (hi lo y : Nat) (hy : y < W64) (hhi : hi < y) (hlo : lo < W64) (hp : 0 < hi) (w : World) :
    Calls Tryz.prog 197 #[.int .u64 hi,.int .u64 lo,.int .u64 y] w λe w'=>e = .returned (.tuple #[.int .u64 ((hi*W64+lo)/y:Nat),.int .u64 ((hi*W64+lo)%y:Nat)])/\A4 w w':=by
  have h1:((y:Int) == 0)=false:=by simp;omega
  have h2:((hi:Int) == 0)=false:=by simp;omega
  have h3:decide ((y:Int)<=(hi:Int))=false:=by simp;omega
  have hlz:=bits_LeadingZeros64 y hy;have hb64:=A0T hy;obtain⟨hY1,hY2⟩:=B4O (y:=y) (by omega) hb64;have hb0:=U9.2 (show y≠0 by omega);obtain⟨s,hs⟩:∃s,s=64-bl y:=⟨_,rfl⟩
  rw[<-hs]at hlz hY1 hY2;have hs64:s<64:=by omega
  obtain⟨Y,hY⟩:∃Y,Y=y*2^s:=⟨_,rfl⟩
  rw[<-hY]at hY1 hY2;obtain⟨y1,hy1⟩:∃q,q=Y/4294967296:=⟨_,rfl⟩
  obtain⟨y0,hy0⟩:∃q,q=Y%4294967296:=⟨_,rfl⟩
  obtain⟨u,hu⟩:∃q,q=hi*2^s+lo/2^(64-s):=⟨_,rfl⟩
  obtain⟨v,hv⟩:∃q,q=lo*2^s%18446744073709551616:=⟨_,rfl⟩
  obtain⟨n1,hn1⟩:∃q,q=v/4294967296:=⟨_,rfl⟩
  obtain⟨n0,hn0⟩:∃q,q=v%4294967296:=⟨_,rfl⟩
  have hpw:2^s*2^(64-s)=18446744073709551616:=by rw[<-B8a,show s+(64-s)=64 by omega]
  have hlod:lo/2^(64-s)<2^s:=by
    rw[B9q (Nat.two_pow_pos _),hpw];exact hlo
  have huY:u<Y:=by
    rw[hu,hY]
    calc hi*2^s+lo/2^(64-s)<(hi+1)*2^s:=by rw[B9h];omega
      _<=y*2^s:=B8q _ hhi
  have hXU:(hi*W64+lo)*2^s=u*18446744073709551616+v:=by
    obtain⟨e1,e2⟩:=A35 lo 18446744073709551616 (2^s) (Nat.two_pow_pos _) (2^(64-s)) hpw.symm (Nat.two_pow_pos _);have e3:=B9c (lo*2^s) 18446744073709551616;rw[e1,<-hv]at e3;rw[hu,B9h,<-e3,show W64=18446744073709551616 from rfl];grind
  have hy1b:y1<4294967296:=by omega
  have hy1h:4294967296<=2*y1:=by omega
  have hy0b:y0<4294967296:=by omega
  have hn1b:n1<4294967296:=by omega
  have hn0b:n0<4294967296:=by omega
  have hYs:y1*4294967296+y0=Y:=by rw[hy1,hy0,Nat.div_add_mod']
  have hvs:n1*4294967296+n0=v:=by rw[hn1,hn0,Nat.div_add_mod']
  obtain⟨t,ht⟩:∃t,t=64-s:=⟨_,rfl⟩
  obtain⟨H,hH⟩:∃H,H=hi*2^s:=⟨_,rfl⟩
  obtain⟨L,hL⟩:∃L,L=lo/2^t:=⟨_,rfl⟩
  rw[<-ht]at hlod hu hpw;rw[<-hL]at hlod hu;rw[<-hH]at hu;have fs:IntKind.u64.wrap (s:Int)=s:=D4 (by omega);have fsm:min s 64=s:=by omega
  have ftm:min t 64=t:=by omega
  have ft:IntKind.u64.wrap (64-(s:Int))=(t:Nat):=by rw[show(64-(s:Int))=(t:Nat)by omega];exact D4 (by omega)
  have fY:IntKind.u64.wrap ((y:Int)*2^s)=(Y:Nat):=by
    rw[show((y:Int)*2^s)=((Y:Nat):Int)by rw[hY];simp];exact D4 hY1
  have fH:IntKind.u64.wrap ((hi:Int)*2^s)=(H:Nat):=by
    rw[show((hi:Int)*2^s)=((H:Nat):Int)by rw[hH];simp];exact D4 (by omega)
  have fv:IntKind.u64.wrap ((lo:Int)*2^s)=(v:Nat):=by
    rw[show((lo:Int)*2^s)=((lo*2^s:Nat):Int)by simp,hv];exact A3N
  have fL:(lo:Int)/2^t=(L:Nat):=by rw[hL];simp
  have for_:bits .or .u64 (H:Int) (L:Int)=(u:Nat):=by
    rw[B8w _ _ (by omega) (by omega),A2s hlod (by rw[hH];exact B9F _ _),hu]
  have fy1:(Y:Int)/4294967296=(y1:Nat):=by omega
  have fy0:bits .and .u64 (Y:Int) 4294967295=(y0:Nat):=by
    rw[show(4294967295:Int)=((4294967295:Nat):Int)from rfl,u64_and_nat _ _ (by omega) (by omega),hy0];exact B9d _ (B9z Y 32)
  have fn1:(v:Int)/4294967296=(n1:Nat):=by omega
  have fn0:bits .and .u64 (v:Int) 4294967295=(n0:Nat):=by
    rw[show(4294967295:Int)=((4294967295:Nat):Int)from rfl,u64_and_nat _ _ (by omega) (by omega),hn0];exact B9d _ (B9z v 32)
  have fz:((y1:Int) == 0)=false:=by simp;omega
  have fz':(y1:Int)≠0:=by omega
  have hD:=DG.start hy1b hy1h hy0b hn1b (show u<y1*4294967296+y0 by omega);obtain⟨q,hq⟩:∃q,q=u/y1:=⟨_,rfl⟩
  obtain⟨r,hr⟩:∃q,q=u%y1:=⟨_,rfl⟩
  rw[<-hq,<-hr]at hD;have fq:IntKind.u64.wrap ((u:Int)/(y1:Int))=(q:Nat):=by
    rw[<-Int.natCast_ediv,<-hq];exact D4 (by have:=hD.2.2.2;omega)
  have fr:IntKind.u64.wrap ((u:Int)-IntKind.u64.wrap ((q:Int)*(y1:Int)))=(r:Nat):=by
    have h:=hD.1;have h':q*y1<=u:=by omega
    rw[show(q:Int)*(y1:Int)=((q*y1:Nat):Int)by simp,D4 (show q*y1<_ by omega),show(u:Int)-((q*y1:Nat):Int)=(r:Nat)by omega];exact D4 (by have:=hD.2.2.1;omega)
  obtain⟨Q1,hQ1⟩:∃q,q=(u*4294967296+n1)/Y:=⟨_,rfl⟩
  obtain⟨U2,hU2⟩:∃q,q=(u*4294967296+n1)%Y:=⟨_,rfl⟩
  have hYp:0<Y:=by omega
  have hU2l:U2<Y:=by rw[hU2];exact B8b _ hYp
  have hQ1l:Q1<4294967296:=by rw[hQ1];exact A3x huY hn1b
  have f21:=A7u u n1 Q1 Y U2 (by rw[hQ1,hU2,B8t _ Y,B9c]) (by omega);have hD2:=DG.start (n:=n0) hy1b hy1h hy0b hn0b (show U2<y1*4294967296+y0 by omega);obtain⟨q2,hq2⟩:∃q,q=U2/y1:=⟨_,rfl⟩
  obtain⟨r2,hr2⟩:∃q,q=U2%y1:=⟨_,rfl⟩
  rw[<-hq2,<-hr2]at hD2;have fq2:IntKind.u64.wrap ((U2:Int).tdiv (y1:Int))=(q2:Nat):=by
    rw[show(U2:Int).tdiv (y1:Int)=((U2/y1:Nat):Int)from rfl,<-hq2];exact D4 (by have:=hD2.2.2.2;omega)
  have fq2':IntKind.u64.wrap ((U2:Int)/(y1:Int))=(q2:Nat):=by
    rw[<-Int.natCast_ediv,<-hq2];exact D4 (by have:=hD2.2.2.2;omega)
  have fr2:IntKind.u64.wrap ((U2:Int)-IntKind.u64.wrap ((q2:Int)*(y1:Int)))=(r2:Nat):=by
    have h:=hD2.1;have h':q2*y1<=U2:=by omega
    rw[show(q2:Int)*(y1:Int)=((q2*y1:Nat):Int)by simp,D4 (show q2*y1<_ by omega),show(U2:Int)-((q2*y1:Nat):Int)=(r2:Nat)by omega];exact D4 (by have:=hD2.2.2.1;omega)
  obtain⟨Q2,hQ2⟩:∃q,q=(U2*4294967296+n0)/Y:=⟨_,rfl⟩
  obtain⟨R,hR⟩:∃q,q=(U2*4294967296+n0)%Y:=⟨_,rfl⟩
  have hRl:R<Y:=by rw[hR];exact B8b _ hYp
  have hQ2l:Q2<4294967296:=by rw[hQ2];exact A3x hU2l hn0b
  have f31:=A7u U2 n0 Q2 Y R (by rw[hQ2,hR,B8t _ Y,B9c]) (by omega);have f32:IntKind.u64.wrap (IntKind.u64.wrap ((Q1:Int)*4294967296)+(Q2:Int))=(Q1*4294967296+Q2:Nat):=by
    rw[show(Q1:Int)*4294967296=((Q1*4294967296:Nat):Int)by omega,D4 (by omega),show(((Q1*4294967296:Nat):Int)+(Q2:Int))=((Q1*4294967296+Q2:Nat):Int)by omega];exact D4 (by omega)
  have f33:(R:Int)/2^s=(R/2^s:Nat):=by simp
  have hjoin:=B7h (X:=hi*W64+lo) (p:=2^s) (u:=u) (n1:=n1) (n0:=n0) (y:=y) (b:=4294967296) (Nat.two_pow_pos _) (by omega) (by rw[hXU,<-hvs,B9h,B9Q,show(4294967296:Nat)*4294967296=18446744073709551616 from rfl,B9g]);rw[<-hY,<-hQ1,<-hU2,<-hQ2,<-hR]at hjoin;obtain⟨A,hA⟩:∃A,A=(hi*W64+lo)/y:=⟨_,rfl⟩
  obtain⟨B,hB⟩:∃A,A=(hi*W64+lo)%y:=⟨_,rfl⟩
  rw[<-hA,<-hB]at hjoin⊢;rw[<-hjoin.1]at f32;have f34:(Q1:Int)*4294967296+(Q2:Int)=(A:Nat):=by rw[hjoin.1];omega
  rw[<-hjoin.2]at f33;have HD:=B8S hD;have HD2:=B8S hD2;have HQ1:=B8S hQ1;have HQ2:=B8S hQ2;have hu':u<y1*4294967296+y0:=by omega
  have hu2':U2<y1*4294967296+y0:=by omega
  have Hu:=B8S hu';have Hu2:=B8S hu2';have HYs:=B8S hYs;clear hD hXU hY huY hlod hu hpw hL hH ht hq hr hn1 hn0 hv hy1 hy0 hb0 hb64 hs hD2 hQ1 hQ2 hjoin hA hB hR hU2 hq2 hr2 hu' hu2' hYs;go_enter Tryz.func197,Tryz.ntmps197;go_wp2_with (go_at_call 198;refine(hlz _).mono ?_;rintro e w1 ⟨rfl,rfl⟩);go_loopw [15,16] (λa b wi=>∃q r:Nat,a = .int .u64 q/\b = .int .u64 r/\DG 4294967296 y1 y0 u n1 q r/\wi=w1) (λa _ _=>(intOf a).toNat)
  case atStart=>exact⟨q,r,rfl,rfl,HD.out,rfl⟩
  case round =>
    clear fq fr HD;obtain⟨q',r',rfl,rfl,hD,rfl⟩:=hrel;have hqb:=hD.2.2.2;have hrb:=hD.2.2.1;obtain⟨m1,m2,m3,k1,k2,k3,k4,k5⟩:=A5a hD hy0b hn1b;have hcases:(q'<4294967296/\m2<=m3)\/((4294967296<=q'\/q'<4294967296/\m3<m2)/\4294967296<=r'+y1)\/((4294967296<=q'\/q'<4294967296/\m3<m2)/\r'+y1<4294967296):=by omega
    have fadd:IntKind.u64.wrap ((r':Int)+(y1:Int))=(r'+y1:Nat):=by
      rw[<-Int.natCast_add];exact D4 (by omega)
    have hmuch:(4294967296<=q'\/q'<4294967296/\m3<m2)->0<q':=λh=>(hD.much hn1b Hu.out (by omega)).1;have hnext:(4294967296<=q'\/q'<4294967296/\m3<m2)->r'+y1<4294967296->DG 4294967296 y1 y0 u n1 (q'-1) (r'+y1):=λh h'=>hD.next hn1b Hu.out (by omega) h';have hbroke:(4294967296<=q'\/q'<4294967296/\m3<m2)->4294967296<=r'+y1->Q1=q'-1:=λh h'=>by
      rw[HQ1.out,<-HYs.out];exact hD.broke hn1b hy0b Hu.out (by omega) h'
    have hstop:m2<=m3->Q1=q':=λh=>by
      rw[HQ1.out,<-HYs.out];exact hD.stop (by omega)
    have Hnext:=B8S hnext;clear k4 k5 hD hnext;obtain⟨m5,hm5⟩:∃m,m=r'+y1:=⟨_,rfl⟩
    rw[<-hm5]at fadd hcases hbroke;rcases hcases with hc|hc|hc
    · replace k3:=k3 hc.1
      have g1:decide ((4294967296:Int)<=(q':Int))=false:=by simp;omega
      have g2:decide ((m3:Int)<(m2:Int))=false:=by simp;omega
      obtain rfl:=hstop hc.2;clear hstop hbroke hmuch;go_wp2_with fail;clear k1 k2 k3 g1 g2 fadd Hnext hc hm5;go_loopw [18,16] (λa b wi=>∃q r:Nat,a = .int .u64 q/\b = .int .u64 r/\DG 4294967296 y1 y0 U2 n0 q r/\wi=wr) (λa _ _=>(intOf a).toNat)
      case atStart=>exact⟨q2,r2,rfl,rfl,HD2.out,rfl⟩
      case round =>
        obtain⟨q3,r3,rfl,rfl,hD,rfl⟩:=hrel;have hqb:=hD.2.2.2;have hrb:=hD.2.2.1;obtain⟨l1,l2,l3,k1,k2,k3,k4,k5⟩:=A5a hD hy0b hn0b;have hcases:(q3<4294967296/\l2<=l3)\/((4294967296<=q3\/q3<4294967296/\l3<l2)/\4294967296<=r3+y1)\/((4294967296<=q3\/q3<4294967296/\l3<l2)/\r3+y1<4294967296):=by omega
        have fadd:IntKind.u64.wrap ((r3:Int)+(y1:Int))=(r3+y1:Nat):=by
          rw[<-Int.natCast_add];exact D4 (by omega)
        have hmuch:(4294967296<=q3\/q3<4294967296/\l3<l2)->0<q3:=λh=>(hD.much hn0b Hu2.out (by omega)).1;have hnext:(4294967296<=q3\/q3<4294967296/\l3<l2)->r3+y1<4294967296->DG 4294967296 y1 y0 U2 n0 (q3-1) (r3+y1):=λh h'=>hD.next hn0b Hu2.out (by omega) h';have hbroke:(4294967296<=q3\/q3<4294967296/\l3<l2)->4294967296<=r3+y1->Q2=q3-1:=λh h'=>by
          rw[HQ2.out,<-HYs.out];exact hD.broke hn0b hy0b Hu2.out (by omega) h'
        have hstop:l2<=l3->Q2=q3:=λh=>by
          rw[HQ2.out,<-HYs.out];exact hD.stop (by omega)
        have Hnext:=B8S hnext;clear k4 k5 hD hnext;obtain⟨m5,hm5⟩:∃m,m=r3+y1:=⟨_,rfl⟩
        rw[<-hm5]at fadd hcases hbroke;rcases hcases with hc|hc|hc
        · replace k3:=k3 hc.1
          have g1:decide ((4294967296:Int)<=(q3:Int))=false:=by simp;omega
          have g2:decide ((l3:Int)<(l2:Int))=false:=by simp;omega
          obtain rfl:=hstop hc.2;clear hstop hbroke hmuch;go_wp2_with fail;go_ret2;exact⟨rfl,A4.refl _⟩
        · have hq0:=hmuch hc.1
          have hqe:q3=Q2+1:=by have:=hbroke hc.1 hc.2;omega
          have fdec:IntKind.u64.wrap ((q3:Int)-1)=(Q2:Nat):=by
            rw[show(q3:Int)-1=(Q2:Nat)by omega];exact D4 (by omega)
          clear hqe;have g3:decide ((4294967296:Int)<=(m5:Int))=true:=by simp;omega
          rcases hc.1 with h|h
          · have g1:decide ((4294967296:Int)<=(q3:Int))=true:=by simp only[decide_eq_true_eq];omega
            clear hstop hbroke hmuch hc k3 hm5 h;go_wp2_with fail;go_ret2;exact⟨rfl,A4.refl _⟩
          · replace k3:=k3 h.1
            have g1:decide ((4294967296:Int)<=(q3:Int))=false:=by simp only[decide_eq_false_iff_not];omega
            have g2:l3<l2:=h.2;clear hstop hbroke hmuch hc hm5 h;go_wp2_with fail;go_ret2;exact⟨rfl,A4.refl _⟩
        · have hq0:=hmuch hc.1
          have hDn:=Hnext.out hc.1 (by omega);obtain⟨q4,hq4⟩:∃q4,q4=q3-1:=⟨_,rfl⟩
          have fdec:IntKind.u64.wrap ((q3:Int)-1)=(q4:Nat):=by
            rw[show(q3:Int)-1=(q4:Nat)by omega];exact D4 (by omega)
          have Hq4:=B8S hq4;have g3:decide ((4294967296:Int)<=(m5:Int))=false:=by simp;omega
          rw[<-hm5,<-hq4]at hDn;have HDn:=B8S hDn;clear hDn hq4;rcases hc.1 with h|h
          · have g1:decide ((4294967296:Int)<=(q3:Int))=true:=by simp only[decide_eq_true_eq];omega
            clear hstop hbroke hmuch hc k3 hm5 h;go_wp2_with fail;go_round
            case rel=>exact⟨q4,m5,rfl,rfl,HDn.out,by first|rfl|trivial⟩
            case measure =>
              have:=Hq4.out;simp[intOf];omega
          · replace k3:=k3 h.1
            have g1:decide ((4294967296:Int)<=(q3:Int))=false:=by simp only[decide_eq_false_iff_not];omega
            have g2:l3<l2:=h.2;clear hstop hbroke hmuch hc hm5 h;go_wp2_with fail;go_round
            case rel=>exact⟨q4,m5,rfl,rfl,HDn.out,by first|rfl|trivial⟩
            case measure =>
              have:=Hq4.out;simp[intOf];omega
    · have hq0:=hmuch hc.1
      have hqe:q'=Q1+1:=by have:=hbroke hc.1 hc.2;omega
      have fdec:IntKind.u64.wrap ((q':Int)-1)=(Q1:Nat):=by
        rw[show(q':Int)-1=(Q1:Nat)by omega];exact D4 (by omega)
      clear hqe;have g3:decide ((4294967296:Int)<=(m5:Int))=true:=by simp;omega
      have hg:(decide ((4294967296:Int)<=(q':Int))=true)\/(decide ((4294967296:Int)<=(q':Int))=false/\m3<m2/\IntKind.u64.wrap ((q':Int)*(y0:Int))=(m2:Nat)):=by
        rcases hc.1 with h|h
        · exact .inl (by simp only[decide_eq_true_eq];omega)
        · exact .inr ⟨by simp only[decide_eq_false_iff_not];omega,h.2,k3 h.1⟩
      clear hstop hbroke hmuch hc k3 hm5;rcases hg with g1|⟨g1,g2,g4⟩
      all_goals
        go_wp2_with fail;clear k1 k2 g1 g3 fadd Hnext hqb hrb fdec;go_loopw [18,16] (λa b wi=>∃q r:Nat,a = .int .u64 q/\b = .int .u64 r/\DG 4294967296 y1 y0 U2 n0 q r/\wi=wr) (λa _ _=>(intOf a).toNat)
        case atStart=>exact⟨q2,r2,rfl,rfl,HD2.out,rfl⟩
        case round =>
          obtain⟨q3,r3,rfl,rfl,hD,rfl⟩:=hrel;have hqb:=hD.2.2.2;have hrb:=hD.2.2.1;obtain⟨l1,l2,l3,k1,k2,k3,k4,k5⟩:=A5a hD hy0b hn0b;have hcases:(q3<4294967296/\l2<=l3)\/((4294967296<=q3\/q3<4294967296/\l3<l2)/\4294967296<=r3+y1)\/((4294967296<=q3\/q3<4294967296/\l3<l2)/\r3+y1<4294967296):=by omega
          have fadd:IntKind.u64.wrap ((r3:Int)+(y1:Int))=(r3+y1:Nat):=by
            rw[<-Int.natCast_add];exact D4 (by omega)
          have hmuch:(4294967296<=q3\/q3<4294967296/\l3<l2)->0<q3:=λh=>(hD.much hn0b Hu2.out (by omega)).1;have hnext:(4294967296<=q3\/q3<4294967296/\l3<l2)->r3+y1<4294967296->DG 4294967296 y1 y0 U2 n0 (q3-1) (r3+y1):=λh h'=>hD.next hn0b Hu2.out (by omega) h';have hbroke:(4294967296<=q3\/q3<4294967296/\l3<l2)->4294967296<=r3+y1->Q2=q3-1:=λh h'=>by
            rw[HQ2.out,<-HYs.out];exact hD.broke hn0b hy0b Hu2.out (by omega) h'
          have hstop:l2<=l3->Q2=q3:=λh=>by
            rw[HQ2.out,<-HYs.out];exact hD.stop (by omega)
          have Hnext:=B8S hnext;clear k4 k5 hD hnext;obtain⟨m5,hm5⟩:∃m,m=r3+y1:=⟨_,rfl⟩
          rw[<-hm5]at fadd hcases hbroke;rcases hcases with hc|hc|hc
          · replace k3:=k3 hc.1
            have g1:decide ((4294967296:Int)<=(q3:Int))=false:=by simp;omega
            have g2:decide ((l3:Int)<(l2:Int))=false:=by simp;omega
            obtain rfl:=hstop hc.2;clear hstop hbroke hmuch;go_wp2_with fail;go_ret2;exact⟨rfl,A4.refl _⟩
          · have hq0:=hmuch hc.1
            have hqe:q3=Q2+1:=by have:=hbroke hc.1 hc.2;omega
            have fdec:IntKind.u64.wrap ((q3:Int)-1)=(Q2:Nat):=by
              rw[show(q3:Int)-1=(Q2:Nat)by omega];exact D4 (by omega)
            clear hqe;have g3:decide ((4294967296:Int)<=(m5:Int))=true:=by simp;omega
            rcases hc.1 with h|h
            · have g1:decide ((4294967296:Int)<=(q3:Int))=true:=by simp only[decide_eq_true_eq];omega
              clear hstop hbroke hmuch hc k3 hm5 h;go_wp2_with fail;go_ret2;exact⟨rfl,A4.refl _⟩
            · replace k3:=k3 h.1
              have g1:decide ((4294967296:Int)<=(q3:Int))=false:=by simp only[decide_eq_false_iff_not];omega
              have g2:l3<l2:=h.2;clear hstop hbroke hmuch hc hm5 h;go_wp2_with fail;go_ret2;exact⟨rfl,A4.refl _⟩
          · have hq0:=hmuch hc.1
            have hDn:=Hnext.out hc.1 (by omega);obtain⟨q4,hq4⟩:∃q4,q4=q3-1:=⟨_,rfl⟩
            have fdec:IntKind.u64.wrap ((q3:Int)-1)=(q4:Nat):=by
              rw[show(q3:Int)-1=(q4:Nat)by omega];exact D4 (by omega)
            have Hq4:=B8S hq4;have g3:decide ((4294967296:Int)<=(m5:Int))=false:=by simp;omega
            rw[<-hm5,<-hq4]at hDn;have HDn:=B8S hDn;clear hDn hq4;rcases hc.1 with h|h
            · have g1:decide ((4294967296:Int)<=(q3:Int))=true:=by simp only[decide_eq_true_eq];omega
              clear hstop hbroke hmuch hc k3 hm5 h;go_wp2_with fail;go_round
              case rel=>exact⟨q4,m5,rfl,rfl,HDn.out,by first|rfl|trivial⟩
              case measure =>
              have:=Hq4.out;simp[intOf];omega
            · replace k3:=k3 h.1
              have g1:decide ((4294967296:Int)<=(q3:Int))=false:=by simp only[decide_eq_false_iff_not];omega
              have g2:l3<l2:=h.2;clear hstop hbroke hmuch hc hm5 h;go_wp2_with fail;go_round
              case rel=>exact⟨q4,m5,rfl,rfl,HDn.out,by first|rfl|trivial⟩
              case measure =>
              have:=Hq4.out;simp[intOf];omega
    · have hq0:=hmuch hc.1
      have hDn:=Hnext.out hc.1 (by omega);obtain⟨q4,hq4⟩:∃q4,q4=q'-1:=⟨_,rfl⟩
      have fdec:IntKind.u64.wrap ((q':Int)-1)=(q4:Nat):=by
        rw[show(q':Int)-1=(q4:Nat)by omega];exact D4 (by omega)
      have Hq4:=B8S hq4;have g3:decide ((4294967296:Int)<=(m5:Int))=false:=by simp;omega
      rw[<-hm5,<-hq4]at hDn;have HDn:=B8S hDn;clear hDn hq4;rcases hc.1 with h|h
      · have g1:decide ((4294967296:Int)<=(q':Int))=true:=by simp only[decide_eq_true_eq];omega
        clear hstop hbroke hmuch hc k3 hm5 h;go_wp2_with fail;go_round
        case rel=>exact⟨q4,m5,rfl,rfl,HDn.out,by first|rfl|trivial⟩
        case measure =>
              have:=Hq4.out;simp[intOf];omega
      · replace k3:=k3 h.1
        have g1:decide ((4294967296:Int)<=(q':Int))=false:=by simp only[decide_eq_false_iff_not];omega
        have g2:m3<m2:=h.2;clear hstop hbroke hmuch hc hm5 h;go_wp2_with fail;go_round
        case rel=>exact⟨q4,m5,rfl,rfl,HDn.out,by first|rfl|trivial⟩
        case measure =>
              have:=Hq4.out;simp[intOf];omega
theorem A8r(hi lo y:Nat)(hy:y<W64)(hhi:hi<y)(hlo:lo<W64)(w:World) :
  Calls Tryz.prog 197 #[.int .u64 hi,.int .u64 lo,.int .u64 y] w λe w'=>e = .returned (.tuple #[.int .u64 ((hi*W64+lo)/y:Nat),.int .u64 ((hi*W64+lo)%y:Nat)])/\A4 w w':=by
 rcases B8M hi with rfl|hp
 ·rw[B8s,Nat.zero_add];exact B4J lo y hhi hlo w
 ·exact B1D hi lo y hy hhi hlo hp w
end Go.Proofs.YtgpglgbcobeogaaGreatDoor
