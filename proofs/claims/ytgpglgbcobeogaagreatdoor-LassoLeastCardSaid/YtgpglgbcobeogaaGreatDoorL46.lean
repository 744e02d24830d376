import Derived.Test.YtgpglgbcobeogaaGreatDoorL45
set_option linter.unusedSimpArgs false
set_option linter.unusedVariables false
set_option maxHeartbeats 8000000
set_option maxRecDepth 100000
namespace Go.Proofs.YtgpglgbcobeogaaGreatDoor
open Go Go.RowKit
abbrev Tr:=Value×Value×Value
def trL(t:Tr):List Value:=[t.1,t.2.1,t.2.2]
def tr0:Tr:=(.bool false,.slice none 0 0,.slice none 0 0)
def trZ(p:Az):Tr:=(.bool (F9 (B9 0).num),.slice p.1.1 (ln (B9 0).num.natAbs) p.1.2,.slice p.2.1 (ln (B9 0).den) p.2.2)
def Z0(ps:List Az)(n:Nat):List Tr:=ps.map trZ++List.replicate (n-ps.length) tr0
theorem A2m{ps:List Az}{n:Nat}(h:ps.length<=n):(Z0 ps n).length=n:=by unfold Z0;simp;omega
theorem A9R{ps:List Az}{n:Nat}(h:ps.length<n)(p:Az):(Z0 ps n).set ps.length (trZ p)=Z0 (ps++[p]) n:=by
 unfold Z0;rw[show n-ps.length=(n-(ps++[p]).length)+1 by simp;omega,List.replicate_succ,List.set_append_right _ _ (by simp)];simp
theorem A74{ps:List Az}{n:Nat}(h:ps.length=n):(Z0 ps n).flatMap trL=(ps.map λp=>((p,B9 0):Zr)).flatMap zrL:=by
 unfold Z0;rw[h,B8g,List.replicate_zero,List.append_nil,List.flatMap_map,List.flatMap_map];rfl
theorem B3I:(Tryz.prog.info? 33).map (λi=>(i.zero,i.size,i.bytes))=some (some (.agg (trL tr0).toArray),3,56):=by kernel_rfl
theorem B67(n:Nat):madeCells (Value.agg (trL tr0).toArray).cells (n*3)=((List.replicate n tr0).flatMap trL).toArray:=by
 unfold madeCells;have hl:=A1n (enc:=trL) (size:=3) (λ_=>rfl) (List.replicate n tr0);rw[B8f]at hl;refine Array.ext (by rw[show(((List.replicate n tr0).flatMap trL).toArray).size=n*3 from hl];simp) λi h1 h2=>?_;have h1':i<n*3:=by simpa using h1
 have hg:=A4H (enc:=trL) (size:=3) (λ_=>rfl) (List.replicate n tr0) (i/3) (i%3) (by rw[B8f];omega) (by omega);rw[show i/3*3+i%3=i by omega,List.getElem_replicate]at hg;have h3:((List.replicate n tr0).flatMap trL)[i]?=some ((List.replicate n tr0).flatMap trL)[i]:=B8i _;rw[h3]at hg;have h4:(trL tr0)[i%3]?=some ((trL tr0)[i%3]'(by show i%3<3;omega)):=B8i _;rw[h4]at hg;injection hg with hg;simp only[List.getElem_toArray,Value.cells,Array.getElem_ofFn];rw[hg];simp[show(trL tr0).length=3 from rfl];rw[h4];rfl
theorem A78(n:Nat)(hn:n<=1048576)(x:Int)(hx:x=n)(W:World):(Instr.makeSlice 25 (.int .i64 x) (.int .i64 x)).run Tryz.prog W =
  .ok (.slice (some ⟨W.heap.size,0,none⟩) n n) (W.alloc (.cells ((List.replicate n tr0).flatMap trL).toArray 33)):=by
 obtain⟨i0,hi0,hz0,hz1,hz2⟩:=B8d B3I;have hr:=run_make (P:=Tryz.prog) W 25 33 i0 (.agg (trL tr0).toArray) Tryz.underlying25 hi0 hz0 .i64 .i64 n n (by omega) (by omega) (by rw[hz2];omega) (by omega);rw[hx];rw[hr,hz1];simp only[Int.toNat_natCast];rw[B67]
theorem A9b{u v:World}{B n:Nat}(hB:B<=u.heap.size)(hn:n<=1048576)(hv:u.alloc (.cells ((List.replicate n tr0).flatMap trL).toArray 33)=v):v.ownsRow B 33 3 (.slice (some ⟨u.heap.size,0,none⟩) n n) n ((Z0 [] n).flatMap trL):=by
 subst hv;have hl:=A1n (enc:=trL) (size:=3) (λ_=>rfl) (List.replicate n tr0);rw[B8f]at hl;have h:=World.ownsRow_lit (base:=B) (e:=33) (size:=3) u ((List.replicate n tr0).flatMap trL).toArray n hB (by unfold maxLen;omega) (by simp only[List.size_toArray];exact hl)
 simpa [Z0]using h
theorem A4y{α:Type}{enc:α->List Value}{B:Nat}{e:TypeId}{g cap n:Nat}(he:∀x,(enc x).length=3){u:World}{ps:List α}(h:u.ownsRow B e 3 (.slice (some ⟨g,0,none⟩) n cap) n (ps.flatMap enc))(hn:n=ps.length)(k:Nat)(hk:k<ps.length) :
  ∃y0 y1 y2,u.cell? ⟨g,k*3,none⟩=some y0/\u.cell? ⟨g,k*3+1,none⟩=some y1/\u.cell? ⟨g,k*3+2,none⟩=some y2/\∀j,u.frozen? ⟨g,j,none⟩=false:=by
 have hl:=he ps[k];have h0:=V6 he h hn k 0 hk (by omega);have h1:=V6 he h hn k 1 hk (by omega);have h2:=V6 he h hn k 2 hk (by omega);rw[B8i (by omega)]at h0 h1 h2;exact⟨_,_,_,h0,h1,h2,λj=>h.frozenAt j⟩
theorem E6.row{u u':World}{ps:List Zr}{B size n cap g i:Nat}{xs vs:List Value}(hl:E6 u ps)(h:u.ownsRow B 33 size (.slice (some ⟨g,0,none⟩) n cap) n xs)(hu:C7 u g i vs=u'):E6 u' ps:=by
 obtain⟨h0,h1|⟨g',cap',cur,e1,hb,hh,-⟩⟩:=h
 ·exact absurd h1.1 (by simp)
 ·obtain rfl:g=g':=by cases e1;rfl
  exact hl.put (bl:=[(g,33,cur)]) (Bx.cons hh (Bx.nil u)) 0 rfl (by decide) i vs hu
theorem B1i(a:Rat):C3 (B9 1) a=a:=by unfold C3;show(1:Rat)*a=a;exact Rat.one_mul a
theorem B3l(a:Rat):C3 (B9 (-1)) a=K4 a:=by unfold C3 K4;show(-1:Rat)*a = -a;grind
theorem B30{a b:Rat}:decide (0<J9 a b) = !(decide (J9 a b<=0)):=by
 by_cases h:J9 a b<=0
 ·have:¬0<J9 a b:=by omega
  simp[h,this]
 ·have:0<J9 a b:=by omega
  simp[h,this]
theorem B4j(A Y V:Option Addr)(rs:List Rq)(y v:List Rat)(N Lw c d k:Nat)(a:Rat)(pa:Az)(hn:rs.length=N)(hN2:N<=20)(hrl:∀r∈rs,r.2.2.length=Lw)(hy:y.length=N)(hv:v.length=Lw)(hL1:1<=Lw)(hL:Lw<=20)(s:Nat)(hs:s<=500000000)(hX:∀i,i<N->∀j,j<Lw->qs (gq (B6 (rs.map (·.2.2)) i) j)<=s)(hys:∀i,i<N->qs (gq y i)<=s)(hvs:∀j,j<Lw->qs (gq v j)<=s)(ha:qs a<=s)(hR:∀i,i<N->qs (gq (V3 (rs.map (·.2.2)) y v N Lw) i)<=500000000)(hPs:∀j,j<Lw->qs (gq (P8 (rs.map (·.2.2)) y v N Lw) j)<=11000000000)(w:World)(h:Lrz w A rs)(h2:Lz w Y y)(h3:Lz w V v)(h4:Rz w pa a) :
  Calls Tryz.prog 40 #[.slice A N c,.slice Y N d,.slice V Lw k,rqV pa.1 pa.2 a] w λe w'=>e = .returned (.int .i64 (if M9 (rs.map (·.2.2)) y v N Lw a<Lw then(M9 (rs.map (·.2.2)) y v N Lw a:Nat)else -1))/\A4 w w':=by
 have hBB:1000000000000<=BIG:=by unfold BIG;omega
 have hpl:=λW (hg:A4 w W)=>A93 A Y V rs y v N Lw c d k hn hN2 hrl hy hv hL s hs hX hys hvs hR W (h.grow hg) (h2.grow hg) (h3.grow hg);have hPl:=A53 (rs.map (·.2.2)) y v N Lw;obtain⟨F1,F2,F3⟩:=A5T (rs.map (·.2.2)) y v N Lw a;obtain⟨PL,hPe⟩:∃R,R=P8 (rs.map (·.2.2)) y v N Lw:=⟨_,rfl⟩
 rw[<-hPe]at hPs hPl F2 F3;simp only[<-hPe]at hpl;obtain⟨F,hFe⟩:∃F,F=M9 (rs.map (·.2.2)) y v N Lw a:=⟨_,rfl⟩
 rw[<-hFe]at F1 F2 F3⊢;have hrv:∀i,i<Lw->∃(bv ov:Nat) (pv:Az),V=some ⟨bv,ov,none⟩/\∀W,A4 w W->Rz W pv (gq v i)/\Cz W bv (ov+i*3) pv (gq v i):=λi hi=>by
  obtain⟨bv,ov,e⟩:=h3.addr (by omega);subst e;obtain⟨p,hp⟩:=h3.read (i:=i) (by omega);exact⟨bv,ov,p,rfl,hp⟩
 obtain⟨cF,hcF⟩:∃z:Int,z=(if F<Lw then(F:Int)else -1):=⟨_,rfl⟩
 rw[<-hcF];have Hcb:=B8S hcF;have Hpl:=B8S hpl;have Hrv:=B8S hrv;have HPs:=B8S hPs;have HPl:=B8S hPl;have HF2:=B8S F2;have HF3:=B8S F3;have Hvs:=B8S hvs;have Ha:=B8S (λW (hg:A4 w W)=>h4.grow hg);clear hpl hrv hPs hPl F2 F3 hPe hFe hX hys hvs hR h h2 h3 h4 hrl hn hy hv hcF;go_enter Tryz.func40,Tryz.ntmps40;refine en1 ?_;intro u hG b7 hB hF;refine B8N (rsE H4 [0,0,0,1,0] hB hG λL hL=>?_);refine gs ?_;refine gxd (X:=Ax) (λx:Ax=>.slice x.1 Lw x.2) (λx W=>Lz W x.1 PL) (λx u u' hg h=>Lz.grow h hg) (λx15=>?_) (C:=by(rintro v ⟨hgu,hB,hG,-⟩;exact Hpl.out _ hG));refine gs ?_;refine geT hL ?_;clear hB hG hL L;rintro u ⟨⟨hgu,hB,hG,-⟩,hx15⟩;obtain⟨xa,xc⟩:=x15;obtain⟨w1,hw1⟩:=exQ u;have HP:=B8S (show Lz w1 xa PL from hw1 ▸ hx15);have hG1:A4 w1 u:=hw1 ▸ A4.refl u;clear hx15 hw1;obtain⟨bp,op,rfl⟩:∃b o,xa=some ⟨b,o,none⟩:=HP.out.addr (by rw[HPl.out];omega);clear hgu;refine B8N ?_;refine r0T ?_;refine B8v ?_;go_loopw [10] (λs0 wr=>∃(i:Nat),i<=F/\s0 = .int .i64 i/\Bx wr [(b7,33,A4Q pa a)]/\A4 w wr/\A4 w1 wr) (λs0 _=>Lw-(intOf s0).toNat)
 case atStart=>exact⟨0,B8k _,rfl,hB,hG,hG1⟩
 case round =>
  clear hB hG hG1;obtain⟨i,hi,rfl,hB,hG,hG1⟩:=hrel;obtain⟨u,rfl⟩:=exQ wr;rcases B73 i Lw with hlt|hge
  ·have hdec:decide ((i:Int)<(Lw:Int))=true:=by simp;omega
   have hiL:(i:Int)<(Lw:Int):=by omega
   obtain⟨bv,ov,pv,rfl,hrv⟩:=Hrv.out i hlt;obtain⟨pp,hrp⟩:=HP.out.read (i:=i) (by rw[HPl.out];exact hlt);have z1:=HPs.out i hlt;have z2:=Hvs.out i hlt;have hyes:=λh=>HF2.out i h;have hno:¬i<F->S9 (gq PL i) (gq v i) a=false:=λh=>by
    have e:F=i:=by omega
    have h4:=HF3.out (by omega);rw[e]at h4;exact h4
   obtain⟨X,hX⟩:∃X,X=gq v i:=⟨_,rfl⟩
   obtain⟨P,hP⟩:∃X,X=gq PL i:=⟨_,rfl⟩
   rw[<-hX]at z2 hyes hno;rw[<-hP]at z1 hyes hno;simp only[<-hX]at hrv;simp only[<-hP]at hrp;have hsg:=λW=>A6l pv.1 pv.2 X W;have Hrv2:=B8S hrv;have Hrp:=B8S hrp;clear hrv hX hP;rcases A4I X with e1|e1|e1
   ·rw[e1]at hsg;rw[B2P e1]at hyes hno;have hml:=λW (q:Az) e3 e4 (hg:A4 w W)=>A3P q.1 q.2 pa.1 pa.2 (B9 1) a W e3 e4 (Ha.out W hg).a (Ha.out W hg).b (by have h9:qs (B9 1)<=1:=(by decide);omega);rw[B1i]at hml;have hcm:=λW (q:Az) e3 e4 (hg:A4 w1 W)=>A57 pp.1 pp.2 q.1 q.2 P a W (hrp W hg).1.a (hrp W hg).1.b e3 e4 (by omega);obtain⟨Z,hZ⟩:∃Z,Z=J9 P a:=⟨_,rfl⟩
    rw[<-hZ]at hyes hno;simp only[<-hZ]at hcm;have Hsg:=B8S hsg;have Hcm:=B8S hcm;have Hml:=B8S hml;clear hsg hcm hml hZ e1 z1 z2 hrp;by_cases hiF:i<F
    ·have fZ0:=hyes hiF;have fZ:(Z != 0)=false:=by simpa using fZ0
     clear hyes hno fZ0;refine B8N ?_;refine r0T ?_;refine B8V (rfl) ?_;refine B8U ?_;refine A6 ?_;refine B8N ?_;refine B8v ?_;refine B8N (rsE H4 [0,0,0,0,1,0] hB hG λL hL=>?_)
     repeat first|refine gya ?_|refine gyr ?_|refine gna ?_|refine gyb (by(rintro v ⟨hgu,hB,hG,-⟩ N hN;have r:=hB.r;simp only[BxR]at r;obtain⟨-,y1,y2,y3⟩:=Hrv2.out v hG;obtain⟨-,p1,p2,p3⟩:=Hrp.out v (hG1.trans hgu);go_simp;exact hN)) ?_
     refine gmw (C:=λv=>Hsg.out _) ?_;refine gs ?_;refine geT hL ?_;clear hB hG hL L;rintro u ⟨hgu,hB,hG,-⟩;replace hG1:=hG1.trans hgu;clear hgu;refine B8N (rdC H4 [] [(0,0),(0,1),(0,2),(0,3),(0,4),(0,5),(0,6),(0,8),(1,7),(1,9),(0,10),(0,11),(0,12),(0,13),(0,14),(0,15),(0,16),(0,17),(0,18),(0,19),(0,20),(0,22),(1,21),(1,23),(1,24),(0,25),(0,26)] hB hG (hs:=A2O [0,1,3,7,7,31,63,127,7,511,1023,2047,4095,8191,16383,32767,65535,65535,262143,524287,65535,1114111,65535,7405567,16777215,33554431,67108863,134217727] (by kernel_rfl)) λK L hN hL=>?_)
     repeat first|refine gya ?_|refine gyr ?_|refine gna ?_|refine gyb (by(rintro v ⟨hgu,hB,hG,-⟩ N hN;have r:=hB.r;simp only[BxR]at r;obtain⟨-,y1,y2,y3⟩:=Hrv2.out v hG;obtain⟨-,p1,p2,p3⟩:=Hrp.out v (hG1.trans hgu);go_simp;exact hN)) ?_
     refine gmn (by exact rfl) ?_;refine okf (by simp only[Act.put,List.setIfInBounds_toArray,List.set_cons_succ,List.set_cons_zero];exact rfl) ?_;refine gmn (by exact rfl) ?_;refine okf (by simp only[Act.put,List.setIfInBounds_toArray,List.set_cons_succ,List.set_cons_zero];exact rfl) ?_
     repeat first|refine gya ?_|refine gyr ?_|refine gna ?_|refine gyb (by(rintro v ⟨hgu,hB,hG,-⟩ N hN;have r:=hB.r;simp only[BxR]at r;obtain⟨-,y1,y2,y3⟩:=Hrv2.out v hG;obtain⟨-,p1,p2,p3⟩:=Hrp.out v (hG1.trans hgu);go_simp;exact hN)) ?_
     refine grd (F7 (B9 1)) (λ(x48:Ax×Ax)=>?_) (C:=λv _=>A0t 1 (by omega) (by omega) _);refine grd (F7 a) (λ(x50:Ax×Ax)=>?_) (C:=by(rintro v ⟨⟨hgu,hB,hG,-⟩,hx48⟩;obtain⟨hx48a,hx48b⟩:Rn v x48.1 _/\Rn v x48.2 _:=hx48;exact Hml.out _ x48 hx48a hx48b hG))
     first|refine gmd (C:=by(rintro v ⟨⟨⟨hgu,hB,hG,-⟩,hx48⟩,hx50⟩;obtain⟨hx48a,hx48b⟩:Rn v x48.1 _/\Rn v x48.2 _:=hx48;obtain⟨hx50a,hx50b⟩:Rn v x50.1 _/\Rn v x50.2 _:=hx50;exact Hcm.out _ x50 hx50a hx50b (hG1.trans hgu))) ?_|refine J6 ?_
     refine gs ?_;refine geC hL ?_;clear hB hG hL L;rintro u ⟨⟨⟨hgu,hB,hG,-⟩,hx48⟩,hx50⟩;obtain⟨hx48a,hx48b⟩:Rn u x48.1 _/\Rn u x48.2 _:=hx48;obtain⟨hx50a,hx50b⟩:Rn u x50.1 _/\Rn u x50.2 _:=hx50;replace hG1:=hG1.trans hgu;clear hgu;refine gtT ?_;clear hN K;refine B8T (rfl) ?_;refine B8U ?_;refine C8 ?_;refine A6 ?_;refine r0E ?_;refine A6 ?_;go_roundw
     case rel=>exact⟨i+1,by omega,by go_num,hB,hG,hG1⟩
     case measure=>simp[intOf];omega
    ·have fZ0:=hno hiF;have fZ:(Z != 0)=true:=by simpa using fZ0
     have eF:F=i:=by omega
     subst eF;have Hc2:=B8S (show cF=(F:Int)by rw[Hcb.out,if_pos hlt]);clear hyes hno hiF fZ0;refine B8N ?_;refine r0T ?_;refine B8V (rfl) ?_;refine B8U ?_;refine A6 ?_;refine B8N ?_;refine B8v ?_;refine B8N (rsE H4 [0,0,0,0,1,0] hB hG λL hL=>?_)
     repeat first|refine gya ?_|refine gyr ?_|refine gna ?_|refine gyb (by(rintro v ⟨hgu,hB,hG,-⟩ N hN;have r:=hB.r;simp only[BxR]at r;obtain⟨-,y1,y2,y3⟩:=Hrv2.out v hG;obtain⟨-,p1,p2,p3⟩:=Hrp.out v (hG1.trans hgu);go_simp;exact hN)) ?_
     refine gmw (C:=λv=>Hsg.out _) ?_;refine gs ?_;refine geT hL ?_;clear hB hG hL L;rintro u ⟨hgu,hB,hG,-⟩;replace hG1:=hG1.trans hgu;clear hgu;refine B8N (rdC H4 [] [(0,0),(0,1),(0,2),(0,3),(0,4),(0,5),(0,6),(0,8),(1,7),(1,9),(0,10),(0,11),(0,12),(0,13),(0,14),(0,15),(0,16),(0,17),(0,18),(0,19),(0,20),(0,22),(1,21),(1,23),(1,24),(0,25),(0,26)] hB hG (hs:=A2O [0,1,3,7,7,31,63,127,7,511,1023,2047,4095,8191,16383,32767,65535,65535,262143,524287,65535,1114111,65535,7405567,16777215,33554431,67108863,134217727] (by kernel_rfl)) λK L hN hL=>?_)
     repeat first|refine gya ?_|refine gyr ?_|refine gna ?_|refine gyb (by(rintro v ⟨hgu,hB,hG,-⟩ N hN;have r:=hB.r;simp only[BxR]at r;obtain⟨-,y1,y2,y3⟩:=Hrv2.out v hG;obtain⟨-,p1,p2,p3⟩:=Hrp.out v (hG1.trans hgu);go_simp;exact hN)) ?_
     refine gmn (by exact rfl) ?_;refine okf (by simp only[Act.put,List.setIfInBounds_toArray,List.set_cons_succ,List.set_cons_zero];exact rfl) ?_;refine gmn (by exact rfl) ?_;refine okf (by simp only[Act.put,List.setIfInBounds_toArray,List.set_cons_succ,List.set_cons_zero];exact rfl) ?_
     repeat first|refine gya ?_|refine gyr ?_|refine gna ?_|refine gyb (by(rintro v ⟨hgu,hB,hG,-⟩ N hN;have r:=hB.r;simp only[BxR]at r;obtain⟨-,y1,y2,y3⟩:=Hrv2.out v hG;obtain⟨-,p1,p2,p3⟩:=Hrp.out v (hG1.trans hgu);go_simp;exact hN)) ?_
     refine grd (F7 (B9 1)) (λ(x48:Ax×Ax)=>?_) (C:=λv _=>A0t 1 (by omega) (by omega) _);refine grd (F7 a) (λ(x50:Ax×Ax)=>?_) (C:=by(rintro v ⟨⟨hgu,hB,hG,-⟩,hx48⟩;obtain⟨hx48a,hx48b⟩:Rn v x48.1 _/\Rn v x48.2 _:=hx48;exact Hml.out _ x48 hx48a hx48b hG))
     first|refine gmd (C:=by(rintro v ⟨⟨⟨hgu,hB,hG,-⟩,hx48⟩,hx50⟩;obtain⟨hx48a,hx48b⟩:Rn v x48.1 _/\Rn v x48.2 _:=hx48;obtain⟨hx50a,hx50b⟩:Rn v x50.1 _/\Rn v x50.2 _:=hx50;exact Hcm.out _ x50 hx50a hx50b (hG1.trans hgu))) ?_|refine J6 ?_
     refine gs ?_;refine geC hL ?_;clear hB hG hL L;rintro u ⟨⟨⟨hgu,hB,hG,-⟩,hx48⟩,hx50⟩;obtain⟨hx48a,hx48b⟩:Rn u x48.1 _/\Rn u x48.2 _:=hx48;obtain⟨hx50a,hx50b⟩:Rn u x50.1 _/\Rn u x50.2 _:=hx50;replace hG1:=hG1.trans hgu;clear hgu;refine gtT ?_;clear hN K;refine B8V (rfl) ?_;refine r0T ?_;refine rt Tryz.results40 ?_;exact⟨by rw[Hc2.out],hG⟩
   ·rw[e1]at hsg;rw[B1Y e1]at hyes hno;have hml:=λW (q:Az) e3 e4 (hg:A4 w W)=>A3P q.1 q.2 pa.1 pa.2 (B9 (-1)) a W e3 e4 (Ha.out W hg).a (Ha.out W hg).b (by have h9:qs (B9 (-1))<=1:=(by decide);omega);rw[B3l]at hml;have z4:=A54 a;obtain⟨m,hm⟩:∃Z,Z=K4 a:=⟨_,rfl⟩
    rw[<-hm]at z4 hyes hno;simp only[<-hm]at hml;have hcm:=λW (q:Az) e3 e4 (hg:A4 w1 W)=>A57 pp.1 pp.2 q.1 q.2 P m W (hrp W hg).1.a (hrp W hg).1.b e3 e4 (by omega);obtain⟨Z,hZ⟩:∃Z,Z=J9 P m:=⟨_,rfl⟩
    rw[<-hZ]at hyes hno;simp only[<-hZ]at hcm;have Hsg:=B8S hsg;have Hcm:=B8S hcm;have Hml:=B8S hml;clear hsg hcm hml hZ hm e1 z1 z2 z4 hrp;by_cases hiF:i<F
    ·have fZ0:=hyes hiF;have fZ:(Z != 0)=false:=by simpa using fZ0
     clear hyes hno fZ0;refine B8N ?_;refine r0T ?_;refine B8V (rfl) ?_;refine B8U ?_;refine A6 ?_;refine B8N ?_;refine B8v ?_;refine B8N (rsE H4 [0,0,0,0,1,0] hB hG λL hL=>?_)
     repeat first|refine gya ?_|refine gyr ?_|refine gna ?_|refine gyb (by(rintro v ⟨hgu,hB,hG,-⟩ N hN;have r:=hB.r;simp only[BxR]at r;obtain⟨-,y1,y2,y3⟩:=Hrv2.out v hG;obtain⟨-,p1,p2,p3⟩:=Hrp.out v (hG1.trans hgu);go_simp;exact hN)) ?_
     refine gmw (C:=λv=>Hsg.out _) ?_;refine gs ?_;refine geT hL ?_;clear hB hG hL L;rintro u ⟨hgu,hB,hG,-⟩;replace hG1:=hG1.trans hgu;clear hgu;refine B8N (rdC H4 [] [(0,0),(0,1),(0,2),(0,3),(0,4),(0,5),(0,6),(0,8),(1,7),(1,9),(0,10),(0,11),(0,12),(0,13),(0,14),(0,15),(0,16),(0,17),(0,18),(0,19),(0,20),(0,22),(1,21),(1,23),(1,24),(0,25),(0,26)] hB hG (hs:=A2O [0,1,3,7,7,31,63,127,7,511,1023,2047,4095,8191,16383,32767,65535,65535,262143,524287,65535,1114111,65535,7405567,16777215,33554431,67108863,134217727] (by kernel_rfl)) λK L hN hL=>?_)
     repeat first|refine gya ?_|refine gyr ?_|refine gna ?_|refine gyb (by(rintro v ⟨hgu,hB,hG,-⟩ N hN;have r:=hB.r;simp only[BxR]at r;obtain⟨-,y1,y2,y3⟩:=Hrv2.out v hG;obtain⟨-,p1,p2,p3⟩:=Hrp.out v (hG1.trans hgu);go_simp;exact hN)) ?_
     refine gmn (by exact rfl) ?_;refine okf (by simp only[Act.put,List.setIfInBounds_toArray,List.set_cons_succ,List.set_cons_zero];exact rfl) ?_;refine gmn (by exact rfl) ?_;refine okf (by simp only[Act.put,List.setIfInBounds_toArray,List.set_cons_succ,List.set_cons_zero];exact rfl) ?_
     repeat first|refine gya ?_|refine gyr ?_|refine gna ?_|refine gyb (by(rintro v ⟨hgu,hB,hG,-⟩ N hN;have r:=hB.r;simp only[BxR]at r;obtain⟨-,y1,y2,y3⟩:=Hrv2.out v hG;obtain⟨-,p1,p2,p3⟩:=Hrp.out v (hG1.trans hgu);go_simp;exact hN)) ?_
     refine grd (F7 (B9 (-1))) (λ(x48:Ax×Ax)=>?_) (C:=λv _=>A0t (-1) (by omega) (by omega) _);refine grd (F7 m) (λ(x50:Ax×Ax)=>?_) (C:=by(rintro v ⟨⟨hgu,hB,hG,-⟩,hx48⟩;obtain⟨hx48a,hx48b⟩:Rn v x48.1 _/\Rn v x48.2 _:=hx48;exact Hml.out _ x48 hx48a hx48b hG))
     first|refine gmd (C:=by(rintro v ⟨⟨⟨hgu,hB,hG,-⟩,hx48⟩,hx50⟩;obtain⟨hx48a,hx48b⟩:Rn v x48.1 _/\Rn v x48.2 _:=hx48;obtain⟨hx50a,hx50b⟩:Rn v x50.1 _/\Rn v x50.2 _:=hx50;exact Hcm.out _ x50 hx50a hx50b (hG1.trans hgu))) ?_|refine J6 ?_
     refine gs ?_;refine geC hL ?_;clear hB hG hL L;rintro u ⟨⟨⟨hgu,hB,hG,-⟩,hx48⟩,hx50⟩;obtain⟨hx48a,hx48b⟩:Rn u x48.1 _/\Rn u x48.2 _:=hx48;obtain⟨hx50a,hx50b⟩:Rn u x50.1 _/\Rn u x50.2 _:=hx50;replace hG1:=hG1.trans hgu;clear hgu;refine gtT ?_;clear hN K;refine B8T (rfl) ?_;refine B8U ?_;refine C8 ?_;refine A6 ?_;refine r0E ?_;refine A6 ?_;go_roundw
     case rel=>exact⟨i+1,by omega,by go_num,hB,hG,hG1⟩
     case measure=>simp[intOf];omega
    ·have fZ0:=hno hiF;have fZ:(Z != 0)=true:=by simpa using fZ0
     have eF:F=i:=by omega
     subst eF;have Hc2:=B8S (show cF=(F:Int)by rw[Hcb.out,if_pos hlt]);clear hyes hno hiF fZ0;refine B8N ?_;refine r0T ?_;refine B8V (rfl) ?_;refine B8U ?_;refine A6 ?_;refine B8N ?_;refine B8v ?_;refine B8N (rsE H4 [0,0,0,0,1,0] hB hG λL hL=>?_)
     repeat first|refine gya ?_|refine gyr ?_|refine gna ?_|refine gyb (by(rintro v ⟨hgu,hB,hG,-⟩ N hN;have r:=hB.r;simp only[BxR]at r;obtain⟨-,y1,y2,y3⟩:=Hrv2.out v hG;obtain⟨-,p1,p2,p3⟩:=Hrp.out v (hG1.trans hgu);go_simp;exact hN)) ?_
     refine gmw (C:=λv=>Hsg.out _) ?_;refine gs ?_;refine geT hL ?_;clear hB hG hL L;rintro u ⟨hgu,hB,hG,-⟩;replace hG1:=hG1.trans hgu;clear hgu;refine B8N (rdC H4 [] [(0,0),(0,1),(0,2),(0,3),(0,4),(0,5),(0,6),(0,8),(1,7),(1,9),(0,10),(0,11),(0,12),(0,13),(0,14),(0,15),(0,16),(0,17),(0,18),(0,19),(0,20),(0,22),(1,21),(1,23),(1,24),(0,25),(0,26)] hB hG (hs:=A2O [0,1,3,7,7,31,63,127,7,511,1023,2047,4095,8191,16383,32767,65535,65535,262143,524287,65535,1114111,65535,7405567,16777215,33554431,67108863,134217727] (by kernel_rfl)) λK L hN hL=>?_)
     repeat first|refine gya ?_|refine gyr ?_|refine gna ?_|refine gyb (by(rintro v ⟨hgu,hB,hG,-⟩ N hN;have r:=hB.r;simp only[BxR]at r;obtain⟨-,y1,y2,y3⟩:=Hrv2.out v hG;obtain⟨-,p1,p2,p3⟩:=Hrp.out v (hG1.trans hgu);go_simp;exact hN)) ?_
     refine gmn (by exact rfl) ?_;refine okf (by simp only[Act.put,List.setIfInBounds_toArray,List.set_cons_succ,List.set_cons_zero];exact rfl) ?_;refine gmn (by exact rfl) ?_;refine okf (by simp only[Act.put,List.setIfInBounds_toArray,List.set_cons_succ,List.set_cons_zero];exact rfl) ?_
     repeat first|refine gya ?_|refine gyr ?_|refine gna ?_|refine gyb (by(rintro v ⟨hgu,hB,hG,-⟩ N hN;have r:=hB.r;simp only[BxR]at r;obtain⟨-,y1,y2,y3⟩:=Hrv2.out v hG;obtain⟨-,p1,p2,p3⟩:=Hrp.out v (hG1.trans hgu);go_simp;exact hN)) ?_
     refine grd (F7 (B9 (-1))) (λ(x48:Ax×Ax)=>?_) (C:=λv _=>A0t (-1) (by omega) (by omega) _);refine grd (F7 m) (λ(x50:Ax×Ax)=>?_) (C:=by(rintro v ⟨⟨hgu,hB,hG,-⟩,hx48⟩;obtain⟨hx48a,hx48b⟩:Rn v x48.1 _/\Rn v x48.2 _:=hx48;exact Hml.out _ x48 hx48a hx48b hG))
     first|refine gmd (C:=by(rintro v ⟨⟨⟨hgu,hB,hG,-⟩,hx48⟩,hx50⟩;obtain⟨hx48a,hx48b⟩:Rn v x48.1 _/\Rn v x48.2 _:=hx48;obtain⟨hx50a,hx50b⟩:Rn v x50.1 _/\Rn v x50.2 _:=hx50;exact Hcm.out _ x50 hx50a hx50b (hG1.trans hgu))) ?_|refine J6 ?_
     refine gs ?_;refine geC hL ?_;clear hB hG hL L;rintro u ⟨⟨⟨hgu,hB,hG,-⟩,hx48⟩,hx50⟩;obtain⟨hx48a,hx48b⟩:Rn u x48.1 _/\Rn u x48.2 _:=hx48;obtain⟨hx50a,hx50b⟩:Rn u x50.1 _/\Rn u x50.2 _:=hx50;replace hG1:=hG1.trans hgu;clear hgu;refine gtT ?_;clear hN K;refine B8V (rfl) ?_;refine r0T ?_;refine rt Tryz.results40 ?_;exact⟨by rw[Hc2.out],hG⟩
   ·rw[e1]at hsg;rw[B3m e1]at hyes hno;have hab:=λW=>B5G pp.1 pp.2 P W;have hpv:=λW hg=>And.intro (B4X (hrp W hg).1.a) (B1h (hrp W hg).1.b);have z4:=A5E P;obtain⟨m,hm⟩:∃Z,Z=T0 P:=⟨_,rfl⟩
    rw[<-hm]at z4 hyes hno;simp only[<-hm]at hab hpv;have hcm:=λW (hg:A4 w W) (hg1:A4 w1 W)=>A57 pp.1 pp.2 pa.1 pa.2 m a W (hpv W hg1).1 (hpv W hg1).2 (Ha.out W hg).a (Ha.out W hg).b (by omega);have hgl:=@B30 m a;obtain⟨Z,hZ⟩:∃Z,Z=J9 m a:=⟨_,rfl⟩
    rw[<-hZ]at hyes hno hgl;simp only[<-hZ]at hcm;have Hsg:=B8S hsg;have Hcm:=B8S hcm;have Hab:=B8S hab;clear hsg hcm hab hpv hZ hm e1 z1 z2 z4 hrp;by_cases hiF:i<F
    ·have fZ:decide (0<Z)=false:=by rw[hgl,hyes hiF];rfl
     clear hyes hno hgl;refine B8N ?_;refine r0T ?_;refine B8V (rfl) ?_;refine B8U ?_;refine A6 ?_;refine B8N ?_;refine B8v ?_;refine B8N (rsE H4 [0,0,0,0,1,0] hB hG λL hL=>?_)
     repeat first|refine gya ?_|refine gyr ?_|refine gna ?_|refine gyb (by(rintro v ⟨hgu,hB,hG,-⟩ N hN;have r:=hB.r;simp only[BxR]at r;obtain⟨-,y1,y2,y3⟩:=Hrv2.out v hG;obtain⟨-,p1,p2,p3⟩:=Hrp.out v (hG1.trans hgu);go_simp;exact hN)) ?_
     refine gmw (C:=λv=>Hsg.out _) ?_;refine gs ?_;refine geT hL ?_;clear hB hG hL L;rintro u ⟨hgu,hB,hG,-⟩;replace hG1:=hG1.trans hgu;clear hgu;refine B8N (rdC H4 [] [(0,0),(0,1),(0,2),(0,3),(0,4),(0,5),(0,6),(0,8),(1,7),(1,9),(0,10),(0,11),(0,12),(0,13),(0,14),(0,15),(0,16),(0,17),(0,18),(0,19),(0,20),(0,22),(1,21),(1,23),(1,24),(0,25),(0,26)] hB hG (hs:=A2O [0,1,3,7,7,31,63,127,7,511,1023,2047,4095,8191,16383,32767,65535,65535,262143,524287,65535,1114111,65535,7405567,16777215,33554431,67108863,134217727] (by kernel_rfl)) λK L hN hL=>?_)
     repeat first|refine gya ?_|refine gyr ?_|refine gna ?_|refine gyb (by(rintro v ⟨hgu,hB,hG,-⟩ N hN;have r:=hB.r;simp only[BxR]at r;obtain⟨-,y1,y2,y3⟩:=Hrv2.out v hG;obtain⟨-,p1,p2,p3⟩:=Hrp.out v (hG1.trans hgu);go_simp;exact hN)) ?_
     first|refine gmw (C:=λv=>Hab.out _) ?_|refine J6 ?_
     first|refine gmd (C:=λv ⟨hgu,hB,hG,_⟩=>Hcm.out _ hG (hG1.trans hgu)) ?_|refine J6 ?_
     repeat first|refine gya ?_|refine gyr ?_|refine gna ?_|refine gyb (by(rintro v ⟨hgu,hB,hG,-⟩ N hN;have r:=hB.r;simp only[BxR]at r;obtain⟨-,y1,y2,y3⟩:=Hrv2.out v hG;obtain⟨-,p1,p2,p3⟩:=Hrp.out v (hG1.trans hgu);go_simp;exact hN)) ?_
     refine gmn (by exact rfl) ?_;refine okf (by simp only[Act.put,List.setIfInBounds_toArray,List.set_cons_succ,List.set_cons_zero];exact rfl) ?_;refine gmn (by exact rfl) ?_;refine okf (by simp only[Act.put,List.setIfInBounds_toArray,List.set_cons_succ,List.set_cons_zero];exact rfl) ?_;refine gmn (by exact rfl) ?_;refine okf (by simp only[Act.put,List.setIfInBounds_toArray,List.set_cons_succ,List.set_cons_zero];exact rfl) ?_;refine gs ?_;refine geC hL ?_;clear hB hG hL L;rintro u ⟨hgu,hB,hG,-⟩;replace hG1:=hG1.trans hgu;clear hgu;refine gtT ?_;clear hN K;refine B8T (rfl) ?_;refine B8U ?_;refine C8 ?_;refine A6 ?_;refine r0E ?_;refine A6 ?_;go_roundw
     case rel=>exact⟨i+1,by omega,by go_num,hB,hG,hG1⟩
     case measure=>simp[intOf];omega
    ·have fZ:decide (0<Z)=true:=by rw[hgl,hno hiF];rfl
     have eF:F=i:=by omega
     subst eF;have Hc2:=B8S (show cF=(F:Int)by rw[Hcb.out,if_pos hlt]);clear hyes hno hiF hgl;refine B8N ?_;refine r0T ?_;refine B8V (rfl) ?_;refine B8U ?_;refine A6 ?_;refine B8N ?_;refine B8v ?_;refine B8N (rsE H4 [0,0,0,0,1,0] hB hG λL hL=>?_)
     repeat first|refine gya ?_|refine gyr ?_|refine gna ?_|refine gyb (by(rintro v ⟨hgu,hB,hG,-⟩ N hN;have r:=hB.r;simp only[BxR]at r;obtain⟨-,y1,y2,y3⟩:=Hrv2.out v hG;obtain⟨-,p1,p2,p3⟩:=Hrp.out v (hG1.trans hgu);go_simp;exact hN)) ?_
     refine gmw (C:=λv=>Hsg.out _) ?_;refine gs ?_;refine geT hL ?_;clear hB hG hL L;rintro u ⟨hgu,hB,hG,-⟩;replace hG1:=hG1.trans hgu;clear hgu;refine B8N (rdC H4 [] [(0,0),(0,1),(0,2),(0,3),(0,4),(0,5),(0,6),(0,8),(1,7),(1,9),(0,10),(0,11),(0,12),(0,13),(0,14),(0,15),(0,16),(0,17),(0,18),(0,19),(0,20),(0,22),(1,21),(1,23),(1,24),(0,25),(0,26)] hB hG (hs:=A2O [0,1,3,7,7,31,63,127,7,511,1023,2047,4095,8191,16383,32767,65535,65535,262143,524287,65535,1114111,65535,7405567,16777215,33554431,67108863,134217727] (by kernel_rfl)) λK L hN hL=>?_)
     repeat first|refine gya ?_|refine gyr ?_|refine gna ?_|refine gyb (by(rintro v ⟨hgu,hB,hG,-⟩ N hN;have r:=hB.r;simp only[BxR]at r;obtain⟨-,y1,y2,y3⟩:=Hrv2.out v hG;obtain⟨-,p1,p2,p3⟩:=Hrp.out v (hG1.trans hgu);go_simp;exact hN)) ?_
     first|refine gmw (C:=λv=>Hab.out _) ?_|refine J6 ?_
     first|refine gmd (C:=λv ⟨hgu,hB,hG,_⟩=>Hcm.out _ hG (hG1.trans hgu)) ?_|refine J6 ?_
     repeat first|refine gya ?_|refine gyr ?_|refine gna ?_|refine gyb (by(rintro v ⟨hgu,hB,hG,-⟩ N hN;have r:=hB.r;simp only[BxR]at r;obtain⟨-,y1,y2,y3⟩:=Hrv2.out v hG;obtain⟨-,p1,p2,p3⟩:=Hrp.out v (hG1.trans hgu);go_simp;exact hN)) ?_
     refine gmn (by exact rfl) ?_;refine okf (by simp only[Act.put,List.setIfInBounds_toArray,List.set_cons_succ,List.set_cons_zero];exact rfl) ?_;refine gmn (by exact rfl) ?_;refine okf (by simp only[Act.put,List.setIfInBounds_toArray,List.set_cons_succ,List.set_cons_zero];exact rfl) ?_;refine gmn (by exact rfl) ?_;refine okf (by simp only[Act.put,List.setIfInBounds_toArray,List.set_cons_succ,List.set_cons_zero];exact rfl) ?_;refine gs ?_;refine geC hL ?_;clear hB hG hL L;rintro u ⟨hgu,hB,hG,-⟩;replace hG1:=hG1.trans hgu;clear hgu;refine gtT ?_;clear hN K;refine B8V (rfl) ?_;refine r0T ?_;refine rt Tryz.results40 ?_;exact⟨by rw[Hc2.out],hG⟩
  ·have eF:F=Lw:=by omega
   have hdec:decide ((Lw:Int)<(Lw:Int))=false:=by simp
   obtain rfl:Lw=i:=by omega
   have Hc2:=B8S (show cF = -1 by rw[Hcb.out,if_neg (by omega)]);clear eF;refine B8N ?_;refine r0T ?_;refine B8T (rfl) ?_;refine B8x ?_;refine B7 ?_;refine B7 ?_;refine D0 ?_;refine A6 ?_;refine r0T ?_;refine rt Tryz.results40 ?_;exact⟨by rw[Hc2.out],hG⟩
theorem A6r(ps:List Ax)(R:Nat->List Rat)(K:Nat):(V8 ps R K).map (·.2.2)=(List.range K).map R:=by
 unfold V8;rw[List.map_map];rfl
theorem A8M(ps:List Ax)(R:Nat->List Rat)(K:Nat):(V8 ps R K).length=K:=by unfold V8;simp
theorem A7l{ps:List Ax}{R:Nat->List Rat}{K L:Nat}(h:∀i,i<K->(R i).length=L):∀r∈V8 ps R K,r.2.2.length=L:=λr hr=>by
 unfold V8 at hr;obtain⟨i,hi,rfl⟩:=List.mem_map.1 hr;exact h i (List.mem_range.1 hi)
def ZW(B g c N:Nat)(l:List Rat)(W:World):Prop:=∃ps:List Zr,ps.map (·.2)=l/\E6 W ps/\W.ownsRow B 33 3 (.slice (some ⟨g,0,none⟩) N c) N (ps.flatMap zrL)
section
variable {B B' g c N:Nat} {l:List Rat} {u w':World}
theorem ZW.len(h:ZW B g c N l u):l.length=N:=by
 obtain⟨ps,h1,h2,h3⟩:=h;obtain⟨A,c',e,-,-,-,hk⟩:=Y6 h3 h2;rw[<-h1,List.length_map,hk]
theorem ZW.grow(h:ZW B g c N l u)(hg:A4 u w'):ZW B g c N l w':=by
 obtain⟨ps,h1,h2,h3⟩:=h;exact⟨ps,h1,h2.grow hg,C5 h3 hg⟩
theorem ZW.mono(h:ZW B g c N l u)(hb:B'<=B):ZW B' g c N l u:=by
 obtain⟨ps,h1,h2,h3⟩:=h;exact⟨ps,h1,h2,h3.mono hb⟩
theorem ZW.lt(h:ZW B g c N l u):B<=g/\g<u.heap.size:=by
 obtain⟨ps,h1,h2,h3⟩:=h;exact h3.lt g rfl
theorem ZW.lzt(h:ZW B g c N l u):Lzt u (some ⟨g,0,none⟩) l:=by
 obtain⟨ps,h1,h2,h3⟩:=h;obtain⟨A,c',e,-,-,h4,-⟩:=A1N h3 h2;cases e;rw[<-h1];exact h4
theorem ZW.spot(h:ZW B g c N l u){i:Nat}(hi:i<N):∃y0 y1 y2,u.cell? ⟨g,i*3,none⟩=some y0/\u.cell? ⟨g,i*3+1,none⟩=some y1/\u.cell? ⟨g,i*3+2,none⟩=some y2/\∀j,u.frozen? ⟨g,j,none⟩=false:=by
 obtain⟨ps,h1,h2,h3⟩:=h;obtain⟨A,c',e,-,-,-,hk⟩:=Y6 h3 h2;exact A4y (enc:=zrL) (λ_=>rfl) h3 hk i (by omega)
theorem ZW.put(h:ZW B g c N l u){i:Nat}(hi:i<N){p:Az}{q:Rat}(hp:Rz u p q)(hu:C7 u g (i*3) (zL p q)=w'):ZW B g c N (l.set i q) w'/\u.grownBy w' (some g):=by
 obtain⟨ps,h1,h2,h3⟩:=h;obtain⟨A,c',e,-,-,-,hk⟩:=Y6 h3 h2;have hP:=P6 (enc:=zrL) (size:=3) (ps:=ps) (λ_=>rfl) h3 i (p,q) (by omega);rw[show C7 u g (i*3) (zrL (p,q))=w' from hu]at hP;have hA:E6 u (ps++[(p,q)]):=λr hr=>by
  rcases List.mem_append.1 hr with hr|hr
  ·exact h2 r hr
  ·rw[List.mem_singleton]at hr;rw[hr];exact hp
 have hA2:=E6.row hA h3 hu;refine⟨⟨ps.set i (p,q),by rw[List.map_set,h1],λr hr=>?_,hP.1⟩,hP.2⟩;rcases List.mem_or_eq_of_mem_set hr with hr|hr
 ·exact hA2 r (List.mem_append.2 (.inl hr))
 ·rw[hr];exact hA2 _ (by simp)
theorem ZW.other(h:ZW B g c N l u){g2:Nat}{B2 e size n:Nat}{c2:Nat}{xs:List Value}(h2:u.ownsRow B2 e size (.slice (some ⟨g2,0,none⟩) n c2) n xs)(hne:g2≠g)(he:e≠193)(hg:u.grownBy w' (some g2)):ZW B g c N l w':=by
 obtain⟨ps,h1,h3,h4⟩:=h;exact⟨ps,h1,A2j h3 h2 he hg,h4.kept hg (.inr (λe=>hne (B78 e).symm))⟩
theorem ZW.own(h:ZW B g c N l u):∃xs,u.ownsRow B 33 3 (.slice (some ⟨g,0,none⟩) N c) N xs:=by
 obtain⟨ps,h1,h3,h4⟩:=h;exact⟨_,h4⟩
end
theorem B1X(N:Nat)(hN:N<=20)(w:World):Calls Tryz.prog 102 #[.int .i64 (N:Nat),.slice none 0 0] w (E9 (λx:Nat=>.slice (some ⟨x,0,none⟩) N N) (λx W=>ZW w.heap.size x N N (G8 N) W) w):=by
 have hmk:=A78 N (by omega) (N:Int) rfl;have Hmk:=B8S hmk;clear hmk;go_enter Tryz.func102,Tryz.ntmps102;refine en0 ?_;intro u hG hB hF;refine B8N ?_;have hmk:=Hmk.out;refine N5 ?_;intro K hN;go_wp2_with fail;generalize hv:World.alloc u _=v;have hrow:=A9b hG.sz (by omega) hv;have hgv:A4 u v:=hv ▸ A4.alloc u _;have hG2:=hG.trans hgv;clear hv hG hB hmk hgv;generalize u.heap.size=g at hrow⊢;have Ho:=B8S hrow;have hG:=hG2;have hB:=Bx.nil v;have hF:=Fr.nil w;clear hrow hG2;obtain⟨u,rfl⟩:=exQ v;refine NoK.norm (hN _ _ ?_);clear hN K;refine A6 ?_;refine B8N ?_;refine r0T ?_;refine B8v ?_;clear hB hF;go_loopw [6] (λs0 wr=>∃ps:List Az,ps.length<=N/\s0 = .int .i64 (ps.length:Nat)/\E6 wr (ps.map λp=>((p,B9 0):Zr))/\wr.ownsRow w.heap.size 33 3 (.slice (some ⟨g,0,none⟩) N N) N ((Z0 ps N).flatMap trL)/\A4 w wr) (λs0 _=>N-(intOf s0).toNat)
 case atStart=>exact⟨[],B8k _,rfl,E6.nil _,Ho.out,hG⟩
 case round =>
  clear hG Ho;obtain⟨ps,hi,rfl,hA,ho,hG⟩:=hrel;obtain⟨u,rfl⟩:=exQ wr;have Ho:=B8S ho;have hB:=Bx.nil u;have hF:=Fr.nil w;clear ho;obtain⟨i,hie⟩:∃i,i=ps.length:=⟨_,rfl⟩
  rw[<-hie]at hi⊢;rcases B73 i N with hlt|hge
  ·have hdec:decide ((i:Int)<(N:Int))=true:=by simp;omega
   have hin:(i:Int)<(N:Int):=by omega
   have hst:=λp=>A9R (ps:=ps) (n:=N) (by omega) p;rw[<-hie]at hst;have Hst:=B8S hst;have Hie:=B8S hie;clear hst hie;refine B8N ?_;refine r0T ?_;refine B8V (rfl) ?_;refine B8U ?_;refine A6 ?_;refine B8N ?_;refine B8v ?_;refine rsC A8 [0,0,1,0] hB hG λK L hN hL=>?_;refine gs ?_;refine grd (F7 (B9 0)) (λ(x17:Ax×Ax)=>?_) (C:=λv _=>A0t 0 (by omega) (by omega) _);refine gs ?_;refine geC hL ?_;clear hB hG hL L;rintro u ⟨⟨hgu,hB,hG,-⟩,hx17⟩;replace hA:=hA.grow hgu;obtain⟨hx17a,hx17b⟩:Rn u x17.1 _/\Rn u x17.2 _:=hx17;have Ho2:=B8S (C5 Ho.out hgu);clear Ho;have Ho:=Ho2;clear Ho2;obtain⟨z0,z1,z2,o0,o1,o2,hfz⟩:=A4y (enc:=trL) (λ_=>rfl) Ho.out (A2m (by rw[<-Hie.out];exact hi)).symm i (by rw[A2m (by rw[<-Hie.out];exact hi)];exact hlt);clear hgu;refine gt ?_;clear hN K;clear o0 o1 o2 hfz;generalize hu0:World.setCell (World.setCell (World.setCell u _ _) _ _) _ _=u0;have hu1:C7 u g (i*3) (trL (trZ x17))=u0:=hu0;have hP:=P6 (enc:=trL) (size:=3) (ps:=Z0 ps N) (λ_=>rfl) Ho.out i (trZ x17) (by rw[A2m (by rw[<-Hie.out];exact hi)];exact hlt);rw[Hst.out,hu1]at hP;have hG2:=O5 Ho.out hG hP.2;have hA2:E6 u0 ((ps++[x17]).map λp=>((p,B9 0):Zr)):=by
    rw[List.map_append];exact E6.row (hA.snoc hx17a hx17b) Ho.out hu1
   have Ho2:=B8S hP.1;clear hG hB Ho hP hu1 hu0 hA hx17a hx17b;have hG:=hG2;have hB:=Bx.nil u0;have hF:=Fr.nil w;have Ho:=Ho2;have hA:=hA2;clear hG2 Ho2 hA2;obtain⟨u,rfl⟩:=exQ u0;refine C8 ?_;refine A6 ?_;refine r0E ?_;refine A6 ?_;go_roundw
   case rel=>exact⟨ps++[x17],by rw[List.length_append,<-Hie.out];exact hlt,by rw[List.length_append,<-Hie.out];go_num,hA,Ho.out,hG⟩
   case measure=>simp[intOf];omega
  ·obtain rfl:N=i:=by omega
   have hdec:decide ((N:Int)<(N:Int))=false:=by simp
   have ho:=Ho.out;rw[A74 hie.symm]at ho;have ez:(ps.map λp=>((p,B9 0):Zr)).map (·.2)=G8 N:=by
    rw[List.map_map,hie];unfold G8;apply B8I
    ·simp
    ·intro j h1 h2;simp;rfl
   have HL:=B8S (⟨_,ez,hA,ho⟩:ZW w.heap.size g N N (G8 N) u);clear ho Ho ez hA hie;refine B8N ?_;refine r0T ?_;refine B8T (rfl) ?_;refine B8x ?_;refine B7 ?_;refine B7 ?_;refine D0 ?_;refine A6 ?_;refine B8N ?_;refine r0T ?_;refine B8v ?_;clear hB hF;go_loopw [7] (λs0 wr=>s0 = .int .i64 0/\A4 w wr/\ZW w.heap.size g N N (G8 N) wr) (λs0 _=>0)
   case atStart=>exact⟨rfl,hG,HL.out⟩
   case round =>
    clear hG HL;obtain⟨rfl,hG,hL⟩:=hrel;obtain⟨u,rfl⟩:=exQ wr;have hB:=Bx.nil u;have hF:=Fr.nil w;have HL:=B8S hL;clear hL;refine B8N ?_;refine r0T ?_;refine B8T (rfl) ?_;refine B8x ?_;refine B7 ?_;refine B7 ?_;refine D0 ?_;refine A6 ?_;refine r0T ?_;refine rt Tryz.results102 ?_;exact⟨g,rfl,HL.out,hG⟩
theorem B4i(N:Nat)(hN:N<=20)(w:World):Calls Tryz.prog 113 #[.int .i64 (N:Nat)] w (E9 (λx:Nat=>.slice (some ⟨x,0,none⟩) N N) (λx W=>ZW w.heap.size x N N (G8 N) W) w):=by
 have hmk:=A78 N (by omega) (N:Int) rfl;have Hmk:=B8S hmk;clear hmk;go_enter Tryz.func113,Tryz.ntmps113;refine en0 ?_;intro u hG hB hF;refine B8N ?_;have hmk:=Hmk.out;refine N5 ?_;intro K hN;go_wp2_with fail;generalize hv:World.alloc u _=v;have hrow:=A9b hG.sz (by omega) hv;have hgv:A4 u v:=hv ▸ A4.alloc u _;have hG2:=hG.trans hgv;clear hv hG hB hmk hgv;generalize u.heap.size=g at hrow⊢;have Ho:=B8S hrow;have hG:=hG2;have hB:=Bx.nil v;have hF:=Fr.nil w;clear hrow hG2;obtain⟨u,rfl⟩:=exQ v;refine NoK.norm (hN _ _ ?_);clear hN K;refine A6 ?_;refine B8N ?_;refine r0T ?_;refine B8v ?_;clear hB hF;go_loopw [4] (λs0 wr=>∃ps:List Az,ps.length<=N/\s0 = .int .i64 (ps.length:Nat)/\E6 wr (ps.map λp=>((p,B9 0):Zr))/\wr.ownsRow w.heap.size 33 3 (.slice (some ⟨g,0,none⟩) N N) N ((Z0 ps N).flatMap trL)/\A4 w wr) (λs0 _=>N-(intOf s0).toNat)
 case atStart=>exact⟨[],B8k _,rfl,E6.nil _,Ho.out,hG⟩
 case round =>
  clear hG Ho;obtain⟨ps,hi,rfl,hA,ho,hG⟩:=hrel;obtain⟨u,rfl⟩:=exQ wr;have Ho:=B8S ho;have hB:=Bx.nil u;have hF:=Fr.nil w;clear ho;obtain⟨i,hie⟩:∃i,i=ps.length:=⟨_,rfl⟩
  rw[<-hie]at hi⊢;rcases B73 i N with hlt|hge
  ·have hdec:decide ((i:Int)<(N:Int))=true:=by simp;omega
   have hin:(i:Int)<(N:Int):=by omega
   have hst:=λp=>A9R (ps:=ps) (n:=N) (by omega) p;rw[<-hie]at hst;have Hst:=B8S hst;have Hie:=B8S hie;clear hst hie;refine B8N ?_;refine r0T ?_;refine B8V (rfl) ?_;refine B8U ?_;refine A6 ?_;refine B8N ?_;refine B8v ?_;refine rsC A8 [0,0,1,0] hB hG λK L hN hL=>?_;refine gs ?_;refine grd (F7 (B9 0)) (λ(x14:Ax×Ax)=>?_) (C:=λv _=>A0t 0 (by omega) (by omega) _);refine gs ?_;refine geC hL ?_;clear hB hG hL L;rintro u ⟨⟨hgu,hB,hG,-⟩,hx14⟩;replace hA:=hA.grow hgu;obtain⟨hx14a,hx14b⟩:Rn u x14.1 _/\Rn u x14.2 _:=hx14;have Ho2:=B8S (C5 Ho.out hgu);clear Ho;have Ho:=Ho2;clear Ho2;obtain⟨z0,z1,z2,o0,o1,o2,hfz⟩:=A4y (enc:=trL) (λ_=>rfl) Ho.out (A2m (by rw[<-Hie.out];exact hi)).symm i (by rw[A2m (by rw[<-Hie.out];exact hi)];exact hlt);clear hgu;refine gt ?_;clear hN K;clear o0 o1 o2 hfz;generalize hu0:World.setCell (World.setCell (World.setCell u _ _) _ _) _ _=u0;have hu1:C7 u g (i*3) (trL (trZ x14))=u0:=hu0;have hP:=P6 (enc:=trL) (size:=3) (ps:=Z0 ps N) (λ_=>rfl) Ho.out i (trZ x14) (by rw[A2m (by rw[<-Hie.out];exact hi)];exact hlt);rw[Hst.out,hu1]at hP;have hG2:=O5 Ho.out hG hP.2;have hA2:E6 u0 ((ps++[x14]).map λp=>((p,B9 0):Zr)):=by
    rw[List.map_append];exact E6.row (hA.snoc hx14a hx14b) Ho.out hu1
   have Ho2:=B8S hP.1;clear hG hB Ho hP hu1 hu0 hA hx14a hx14b;have hG:=hG2;have hB:=Bx.nil u0;have hF:=Fr.nil w;have Ho:=Ho2;have hA:=hA2;clear hG2 Ho2 hA2;obtain⟨u,rfl⟩:=exQ u0;refine C8 ?_;refine A6 ?_;refine r0E ?_;refine A6 ?_;go_roundw
   case rel=>exact⟨ps++[x14],by rw[List.length_append,<-Hie.out];exact hlt,by rw[List.length_append,<-Hie.out];go_num,hA,Ho.out,hG⟩
   case measure=>simp[intOf];omega
  ·obtain rfl:N=i:=by omega
   have hdec:decide ((N:Int)<(N:Int))=false:=by simp
   have ho:=Ho.out;rw[A74 hie.symm]at ho;have ez:(ps.map λp=>((p,B9 0):Zr)).map (·.2)=G8 N:=by
    rw[List.map_map,hie];unfold G8;apply B8I
    ·simp
    ·intro j h1 h2;simp;rfl
   have HL:=B8S (⟨_,ez,hA,ho⟩:ZW w.heap.size g N N (G8 N) u);clear ho Ho ez hA hie;refine B8N ?_;refine r0T ?_;refine B8T (rfl) ?_;refine B8x ?_;refine B7 ?_;refine B7 ?_;refine D0 ?_;refine A6 ?_;refine r0T ?_;refine rt Tryz.results113 ?_;exact⟨g,rfl,HL.out,hG⟩
end Go.Proofs.YtgpglgbcobeogaaGreatDoor
