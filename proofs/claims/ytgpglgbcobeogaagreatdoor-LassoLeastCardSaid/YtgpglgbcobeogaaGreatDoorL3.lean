import Derived.Test.YtgpglgbcobeogaaGreatDoorL2
set_option linter.unusedSimpArgs false
set_option linter.unusedVariables false
namespace Go.Proofs.YtgpglgbcobeogaaGreatDoor
def GW(W u2 u1 u0 v1 v0 g:Nat):Prop:=g<W/\g*(v1*W+v0)<=(u2*W+u1)*W+u0/\∀g',g'<W->g'*(v1*W+v0)<=(u2*W+u1)*W+u0->g'<=g
def GI(W u2 u1 u0 v1 v0 g r:Nat):Prop:=g<W/\g*v1+r=u2*W+u1/\∀g',g'<W->g'*(v1*W+v0)<=(u2*W+u1)*W+u0->g'<=g
theorem GI.full{W u2 u1 u0 v1 v0:Nat}(hW:0<W)(h:u2=v1):GI W u2 u1 u0 v1 v0 (W-1) (u1+v1):=by
 refine⟨by omega,?_,λg' hg' _=>by omega⟩;obtain⟨k,rfl⟩:∃k,W=k+1:=⟨W-1,by omega⟩
 subst h;rw[Nat.add_sub_cancel,B9o,B9P,B8t k];omega
theorem GI.quo{W u2 u1 u0 v1 v0:Nat}(hW:0<W)(h:u2<v1)(h1:u1<W)(h0:u0<W):GI W u2 u1 u0 v1 v0 ((u2*W+u1)/v1) ((u2*W+u1)%v1):=by
 have hlt:u2*W+u1<v1*W:=by
  have:(u2+1)*W<=v1*W:=B8q _ h;rw[B9h,B9Y]at this;omega
 refine⟨(B9q (by omega)).2 (by rw[B8t W v1];exact hlt),by rw[B8t];exact B9c _ _,λg' _ hg=>?_⟩;rw[B9y (by omega)];have h2:g'*v1*W<=g'*(v1*W+v0):=by rw[B9o,B9Q];omega
 have h3:g'*v1*W<(u2*W+u1+1)*W:=by rw[B9h (u2*W+u1),B9Y];omega
 have:=B9l h3;omega
theorem GI.stop{W u2 u1 u0 v1 v0 g r:Nat}(h:GI W u2 u1 u0 v1 v0 g r)(hs:g*v0<=r*W+u0):GW W u2 u1 u0 v1 v0 g:=by
 refine⟨h.1,?_,h.2.2⟩;rw[<-h.2.1,B9o,B9h (g*v1),B9Q];omega
theorem GI.over{W u2 u1 u0 v1 v0 g r:Nat}(h:GI W u2 u1 u0 v1 v0 g r)(h0:v0<W)(hr:W<=r):GW W u2 u1 u0 v1 v0 g:=by
 refine h.stop ?_;have h1:g*v0<=W*W:=B9p (B8B h.1) (B8B h0);have h2:W*W<=r*W:=B8q _ hr;omega
theorem GI.next{W u2 u1 u0 v1 v0 g r:Nat}(h:GI W u2 u1 u0 v1 v0 g r)(hs:¬g*v0<=r*W+u0):0<g/\GI W u2 u1 u0 v1 v0 (g-1) (r+v1):=by
 have hg:0<g:=by
  rcases B8M g with h0|h0
  ·rw[h0,B8s]at hs;omega
  ·exact h0
 obtain⟨k,rfl⟩:∃k,g=k+1:=⟨g-1,by omega⟩
 have h1:=h.2.1;rw[B9h,B9Y]at h1;refine⟨hg,by have:=h.1;omega,by rw[Nat.add_sub_cancel];omega,λg' hg' hv=>?_⟩;have h2:=h.2.2 g' hg' hv;rcases B73 g' (k+1)with h3|h3
 ·omega
 ·obtain rfl:g'=k+1:=by omega
  exfalso;apply hs;rw[<-h.2.1,B9o,B9h ((k+1)*v1),B9Q]at hv;omega
theorem A7P{W p r u0:Nat}(hW:0<W)(h0:u0<W):p<=r*W+u0↔(p/W<r\/(p/W=r/\p%W<=u0)):=by
 have h1:=B9c p W;have h2:=B8b p hW;constructor
 ·intro h;rcases B73 (p/W) r with h3|h3
  ·exact .inl h3
  ·refine .inr ?_;have h4:p/W<=r:=by
    rcases B73 r (p/W)with h5|h5
    ·have:W*(r+1)<=W*(p/W):=B9L _ h5;rw[B9o,B9P,B8t W r]at this;omega
    ·exact h5
   have h5:p/W=r:=by omega
   refine⟨h5,?_⟩;rw[h5,B8t]at h1;omega
 ·rintro(h|⟨h,h3⟩)
  ·have:W*(p/W+1)<=W*r:=B9L _ h;rw[B9o,B9P,B8t W r]at this;omega
  ·rw[h,B8t]at h1;omega
theorem A50{l:List Nat}{k:Nat}(h:k<l.length)(y:Nat):dg (l.set k y) k=y:=by
 unfold dg;rw[List.getElem?_set_self h];rfl
def ShU(W P wh:Nat)(l:List Nat)(i:Nat)(zs:List Nat):Prop :=
 zs.length=l.length+wh+1/\Dig W zs/\val W zs=val W (l.take i)*(W^wh*P)/\dg zs (i+wh)<P/\∀t,i+wh<t->dg zs t=0
theorem ShU.start{W P wh:Nat}(l:List Nat)(hW:0<W)(hP:0<P):ShU W P wh l 0 (List.replicate (l.length+wh+1) 0):=by
 have hz:∀t,dg (List.replicate (l.length+wh+1) 0) t=0:=λt=>by unfold dg;rw[B9f];split<;>rfl
 exact⟨by simp,λx hx=>by rw[(List.mem_replicate.1 hx).2];exact hW,by simp[A1S,val],by rw[hz];exact hP,λt _=>hz t⟩
theorem A9v{W P R x c:Nat}(hW:W=P*R)(hR:0<R)(hc:c<P)(hx:x<W):c+x%R*P<W/\x/R<P/\x%R*P+W*(x/R)=P*x:=by
 have h1:x%R+1<=R:=B8b x hR;have h2:(x%R+1)*P<=R*P:=B8q _ h1;rw[B9h,B9Y]at h2;refine⟨by rw[hW,B8t P R];omega,(B9q hR).2 (by rw[<-hW];exact hx),?_⟩;have h3:=B9c x R;rw[hW]
 calc x%R*P+P*R*(x/R)=P*(R*(x/R)+x%R):=by grind
  _=P*x:=by rw[h3]
theorem ShU.next{W P R wh:Nat}{l:List Nat}{i:Nat}{zs:List Nat}(h:ShU W P wh l i zs)(hW:W=P*R)(hR:0<R)(hi:i<l.length)(hd:Dig W l)(hW0:0<W) :
  ShU W P wh l (i+1) ((zs.set (i+wh) (dg zs (i+wh)+dg l i%R*P)).set (i+wh+1) (dg l i/R)):=by
 obtain⟨h1,h2,h3,h4,h5⟩:=h;have hx:=D1 hW0 hd i;obtain⟨a1,a2,a3⟩:=A9v (c:=dg zs (i+wh)) hW hR h4 hx;have hP:P<=W:=by rw[hW];exact B9O _ hR
 have hk1:i+wh<zs.length:=by omega
 have hk2:i+wh+1<zs.length:=by omega
 have e1:=Y7 W zs (i+wh) (dg zs (i+wh)+dg l i%R*P) hk1;have e2:=Y7 W (zs.set (i+wh) (dg zs (i+wh)+dg l i%R*P)) (i+wh+1) (dg l i/R) (by rw[B8r];exact hk2);rw[R4 _ _ (by omega),h5 (i+wh+1) (by omega),B9N,Nat.add_zero]at e2;refine⟨by simp[h1],S7 (S7 h2 _ a1) _ (by omega),?_,?_,λt ht=>?_⟩
 ·rw[e2,N2,B9h,<-h3];have e3:W^(i+wh)*(dg l i%R*P)+W^(i+wh+1)*(dg l i/R)=W^i*dg l i*(W^wh*P):=by
   calc W^(i+wh)*(dg l i%R*P)+W^(i+wh+1)*(dg l i/R)=W^(i+wh)*(dg l i%R*P+W*(dg l i/R)):=by rw[Nat.pow_succ];grind
    _=W^i*dg l i*(W^wh*P):=by rw[a3,B8a];grind
  rw[B9o]at e1;omega
 ·rw[show i+1+wh=i+wh+1 by omega,A50 (by rw[B8r];exact hk2)];exact a2
 ·rw[R4 _ _ (by omega),R4 _ _ (by omega)];exact h5 t (by omega)
theorem ShU.done{W P wh:Nat}{l zs:List Nat}(h:ShU W P wh l l.length zs):val W zs=val W l*(W^wh*P):=by
 have:=h.2.2.1
 rwa [B9r]at this
theorem A5X(n:Nat):18446744073709551616^(n/64)*2^(n%64)=2^n:=by
 rw[show(18446744073709551616:Nat)=2^64 from rfl,<-B8Y,<-B8a,B9c]
def ShD(W P R wh:Nat)(l:List Nat)(i:Nat)(zs:List Nat):Prop :=
 zs.length=l.length-wh/\(∀t,t<i->dg zs t=dg l (t+wh)/P+dg l (t+wh+1)%P*R)/\∀t,i<=t->dg zs t=0
theorem A2R{W P R x y:Nat}(hW:W=P*R)(hP:0<P)(hx:x<W):x/P+y%P*R<W/\x/P<R:=by
 have h0:x/P<R:=(B9q hP).2 (by rw[B8t,<-hW];exact hx);have h1:y%P+1<=P:=B8b y hP;have h2:(y%P+1)*R<=P*R:=B8q _ h1;rw[B9h,B9Y]at h2;exact⟨by rw[hW];omega,h0⟩
theorem A4n{W:Nat}(hW:0<W){l:List Nat}(hd:Dig W l)(k:Nat):val W (l.drop k)=val W l/W^k:=by
 have h1:=A0O W (l.take k) (l.drop k);rw[B8D]at h1;rcases B73 k l.length with h|h
 ·have hl:(l.take k).length=k:=by simp;omega
  have h2:=K6 (B:=W) (l:=l.take k) λx hx=>hd x (B8p hx);rw[hl]at h1 h2;rw[h1,B9k _ _ (B9t hW),B80 h2,Nat.zero_add]
 ·rw[B8m h];have h2:=K6 hd;have h3:W^l.length<=W^k:=B8Z hW h;rw[B80 (by omega)];rfl
theorem A4s{W P R:Nat}(hW:W=P*R)(hP:0<P)(hW0:0<W):∀(l zs:List Nat),Dig W l->zs.length=l.length->(∀t,t<l.length->dg zs t=dg l t/P+dg l (t+1)%P*R)->val W zs=val W l/P
 | [],zs,_,hl,_=>by
  rw[B76 hl];exact(Nat.zero_div P).symm
 | x::l,[],_,hl,_=>by simp at hl
 | x::l,z::zs,hd,hl,h=>by
  have ih:=A4s hW hP hW0 l zs (λy hy=>hd y (by simp[hy])) (by simpa using hl) λt ht=>by
   have:=h (t+1) (by simp;omega);exact this
  have h0:=h 0 (by simp);have hz:z=x/P+dg l 0%P*R:=h0;rw[O7,O7,ih,hz];have hdl:val W l%P=dg l 0%P:=by
   cases l with
   | nil=>rfl
   | cons y l' =>
    show(y+W*val W l')%P=y%P;rw[hW,B9Q,B9I]
  have e1:=B9c (val W l) P;have e2:=B9c x P;have hm:=B8b x hP;rw[<-hdl];have e3:x+W*val W l=P*(x/P+val W l%P*R+W*(val W l/P))+x%P:=by
   calc x+W*val W l=P*(x/P)+x%P+W*(P*(val W l/P)+val W l%P):=by rw[e1,e2]
    _=P*(x/P+val W l%P*R+W*(val W l/P))+x%P:=by rw[hW];grind
  rw[e3,Nat.mul_add_div hP,B80 hm,Nat.add_zero]
theorem A1A(l:List Nat)(k t:Nat):dg (l.drop k) t=dg l (k+t):=by unfold dg;rw[List.getElem?_drop]
theorem ShD.done{W P R wh:Nat}{l zs:List Nat}(hW:W=P*R)(hP:0<P)(hW0:0<W)(hd:Dig W l)(h:ShD W P R wh l (l.length-wh) zs):val W zs=val W l/(W^wh*P):=by
 rw[<-B8W,<-A4n hW0 hd wh];refine A4s hW hP hW0 _ _ (λy hy=>hd y (B9E hy)) (by rw[h.1,B9D]) λt ht=>?_;rw[B9D]at ht;rw[h.2.1 t ht,A1A,A1A,show wh+(t+1)=t+wh+1 by omega,B9G wh t]
theorem ShD.start{W P R wh:Nat}(l:List Nat):ShD W P R wh l 0 (List.replicate (l.length-wh) 0) :=
 ⟨by simp,λt ht=>by omega,λt _=>by unfold dg;rw[B9f];split<;>rfl⟩
theorem ShD.next{W P R wh:Nat}{l:List Nat}{i:Nat}{zs:List Nat}(h:ShD W P R wh l i zs)(hi:i<l.length-wh):ShD W P R wh l (i+1) (zs.set i (dg l (i+wh)/P+dg l (i+wh+1)%P*R)):=by
 refine⟨by rw[B8r];exact h.1,λt ht=>?_,λt ht=>by rw[R4 _ _ (by omega)];exact h.2.2 t (by omega)⟩;rcases B73 t i with hlt|hge
 ·rw[R4 _ _ (by omega)];exact h.2.1 t hlt
 ·obtain rfl:t=i:=by omega
  rw[A50 (by rw[h.1];exact hi)]
theorem ShD.dig{W P R wh:Nat}{l zs:List Nat}(hW:W=P*R)(hP:0<P)(hW0:0<W)(hd:Dig W l)(h:ShD W P R wh l (l.length-wh) zs):Dig W zs:=λx hx=>by
 obtain⟨t,ht,rfl⟩:=B9w hx;rw[<-E8 ht,h.2.1 t (by rw[<-h.1];exact ht)];exact(A2R hW hP (D1 hW0 hd _)).1
theorem A2r{W:Nat}(hW:0<W){l:List Nat}(hd:Dig W l){k:Nat}(h:∀t,k<=t->dg l t=0):val W l<W^k:=by
 have h1:=A0O W (l.take k) (l.drop k);rw[B8D]at h1;have h2:val W (l.drop k)=0:=by
  have:∀(l:List Nat),(∀t,dg l t=0)->val W l=0:=λl=>by
   induction l with
   | nil=>intro _;rfl
   | cons x l ih =>
    intro h;rw[O7,ih λt=>h (t+1),show x=0 from h 0];simp
  exact this _ λt=>by rw[A1A];exact h _ (by omega)
 rw[h2,B9N,Nat.add_zero]at h1;rw[h1];have h3:=K6 (B:=W) (l:=l.take k) λx hx=>hd x (B8p hx);exact B8X h3 (B8Z hW (by simp;omega))
theorem A3Z{W:Nat}(hW:0<W){l:List Nat}(hd:Dig W l){k:Nat}(h:val W l<W^k)(t:Nat)(ht:k<=t):dg l t=0:=by
 rcases B73 t l.length with hl|hl
 ·have h1:=A0O W (l.take t) (l.drop t);rw[B8D]at h1;have h2:(l.take t).length=t:=by simp;omega
  rw[h2]at h1;have h3:W^k<=W^t:=B8Z hW ht;have h4:val W (l.drop t)=0:=by
   rcases B8M (val W (l.drop t))with h0|h0
   ·exact h0
   ·have:W^t*1<=W^t*val W (l.drop t):=B9L _ h0;omega
  obtain⟨x,r,hx⟩:∃x r,l.drop t=x::r:=by
   cases hdr:l.drop t with
   | nil=>have:=B9d List.length hdr;simp at this;omega
   | cons x r=>exact⟨x,r,rfl⟩
  rw[hx,O7]at h4;have h5:dg (l.drop t) 0=0:=by rw[hx];show x=0;omega
  rw[A1A]at h5;exact h5
 ·exact A0u hl
theorem A3J{W:Nat}(hW:0<W){l:List Nat}(hd:Dig W l)(j:Nat):val W l/W^j=val W (l.drop j):=(A4n hW hd j).symm
theorem A6b{W:Nat}{l:List Nat}(hd:Dig W l)(hW:0<W)(k:Nat)(h:∀t,k+3<=t->dg l t=0) :
  ∃ul,ul<W^k/\val W l=((dg l (k+2)*W+dg l (k+1))*W+dg l k)*W^k+ul:=by
 refine⟨val W (l.take k),?_,?_⟩
 ·have h3:=K6 (B:=W) (l:=l.take k) λx hx=>hd x (B8p hx);exact B8X h3 (B8Z hW (by simp;omega))
 ·have h1:=N2 W l k;have h2:=N2 W l (k+1);have h3:=N2 W l (k+2);have h4:val W (l.take (k+3))=val W l:=by
   have h5:=A0O W (l.take (k+3)) (l.drop (k+3));rw[B8D]at h5;have h6:=A2r hW (l:=l.drop (k+3)) (λx hx=>hd x (B9E hx)) (k:=0) λt _=>by rw[A1A];exact h _ (by omega)
   have h7:val W (l.drop (k+3))=0:=by simpa using h6
   rw[h7,B9N,Nat.add_zero]at h5;exact h5.symm
  rw[<-h4,h3,h2,h1,Nat.pow_succ,Nat.pow_succ];grind
theorem B0b{W:Nat}{l:List Nat}(hd:Dig W l)(hW:0<W)(k:Nat)(h:∀t,k+2<=t->dg l t=0) :
  ∃ul,ul<W^k/\val W l=(dg l (k+1)*W+dg l k)*W^k+ul:=by
 obtain⟨ul,h1,h2⟩:=A6b hd hW k λt ht=>h t (by omega);refine⟨ul,h1,?_⟩;rw[h2,h (k+2) (by omega)];simp
theorem A61{W n:Nat}{D V:List Nat}(hW:0<W)(hdD:Dig W D)(hdV:Dig W V)(hD:∀t,n+3<=t->dg D t=0)(hV:∀t,n+2<=t->dg V t=0)(hv1:0<dg V (n+1))(hlt:val W D<val W V*W){g:Nat}
  (h:GW W (dg D (n+2)) (dg D (n+1)) (dg D n) (dg V (n+1)) (dg V n) g):g=val W D/val W V\/(g=val W D/val W V+1/\val W D<g*val W V):=by
 obtain⟨ul,hul,eD⟩:=A6b hdD hW n hD;obtain⟨vl,hvl,eV⟩:=B0b hdV hW n hV;obtain⟨h1,h2,h3⟩:=h;have hp:0<W^n:=B9t hW;have hV2:W<=dg V (n+1)*W+dg V n:=by
  have:1*W<=dg V (n+1)*W:=B8q _ hv1;omega
 have hV0:0<val W V:=by
  rw[eV];have:1*1<=(dg V (n+1)*W+dg V n)*W^n:=B9p (by omega) hp;omega
 refine B1B hV0 ?_ ?_
 ·refine h3 _ ((B9q hV0).2 (by rw[B8t];exact hlt)) ?_;have h4:=B9m (val W D) (val W V);refine B18 (p:=W^n) (vl:=vl) hul ?_;rw[<-eV,<-eD];exact h4
 ·have:=B48 hp hvl hul hV2 h1 h2;rw[<-eV,<-eD]at this;exact this
theorem A7T{W n:Nat}{D V:List Nat}(hW:0<W)(hdD:Dig W D)(hdV:Dig W V)(hD:∀t,n+3<=t->dg D t=0)(hV:∀t,n+2<=t->dg V t=0)(hlt:val W D<val W V*W):dg D (n+2)<=dg V (n+1):=by
 obtain⟨ul,hul,eD⟩:=A6b hdD hW n hD;obtain⟨vl,hvl,eV⟩:=B0b hdV hW n hV;have hp:0<W^n:=B9t hW;rcases B73 (dg V (n+1)) (dg D (n+2))with h|h
 ·exfalso;have h0:=D1 hW hdV n;have h1:(dg V (n+1)*W+dg V n)*W^n+vl<(dg V (n+1)+1)*W*W^n:=by
   have:(dg V (n+1)*W+dg V n+1)*W^n<=(dg V (n+1)+1)*W*W^n:=B8q _ (by rw[B9h,B9Y];omega);rw[B9h _ 1,B9Y]at this;omega
  have h2:(dg V (n+1)+1)*W*W^n*W<=val W D:=by
   rw[eD];have:(dg V (n+1)+1)*(W*W*W^n)<=dg D (n+2)*(W*W*W^n):=B8q _ h
   calc (dg V (n+1)+1)*W*W^n*W=(dg V (n+1)+1)*(W*W*W^n):=by grind
    _<=dg D (n+2)*(W*W*W^n):=this
    _<=((dg D (n+2)*W+dg D (n+1))*W+dg D n)*W^n+ul:=by
     have e:((dg D (n+2)*W+dg D (n+1))*W+dg D n)*W^n+ul=dg D (n+2)*(W*W*W^n)+(dg D (n+1)*W*W^n+dg D n*W^n+ul):=by grind
     omega
  rw[<-eV]at h1;have h3:val W V*W<=(dg V (n+1)+1)*W*W^n*W:=B8q _ (B8B h1);omega
 ·exact h
theorem A9k{W x y b:Nat}(hb:b<=1)(hx:x<W)(hy:y<W):(x+W-y-b)%W+y+b=x+(if x<y+b then 1 else 0)*W/\(x+W-y-b)%W<W:=by
 refine⟨?_,B8b _ (by omega)⟩;split
 ·rename_i h;rw[Nat.mod_eq_of_lt (by omega)];omega
 ·rename_i h;rw[show x+W-y-b=x-y-b+W by omega,Nat.add_mod_right,Nat.mod_eq_of_lt (by omega)];omega
def DvM(W j g:Nat)(vs us:List Nat)(i cy br:Nat)(zs:List Nat):Prop :=
 zs.length=us.length/\Dig W zs/\(∀t,j+i<=t->dg zs t=dg us t)/\val W zs+g*val W (vs.take i)*W^j=val W us+(cy+br)*W^(j+i)/\cy<W/\br<=1
theorem DvM.start{W j g:Nat}{vs us:List Nat}(hW:0<W)(hd:Dig W us):DvM W j g vs us 0 0 0 us :=
 ⟨rfl,hd,λ_ _=>rfl,by simp[val],hW,by omega⟩
theorem A76{W g x cy:Nat}(hW:0<W)(hg:g<W)(hx:x<W)(hc:cy<W) :
  g*x/W+(g*x%W+cy)/W<W/\(g*x/W+(g*x%W+cy)/W)*W+(g*x%W+cy)%W=g*x+cy:=by
 have e1:=B9c (g*x) W;have e2:=B9c (g*x%W+cy) W;have e3:(g*x/W+(g*x%W+cy)/W)*W+(g*x%W+cy)%W=g*x+cy:=by
  rw[B9h,B8t (g*x/W),B8t ((g*x%W+cy)/W)];omega
 refine⟨?_,e3⟩;have h1:g*x<=(W-1)*(W-1):=B9p (by omega) (by omega);obtain⟨k,rfl⟩:∃k,W=k+1:=⟨W-1,by omega⟩
 rw[Nat.add_sub_cancel]at h1;have h2:g*x+cy<(k+1)*(k+1):=by
  have:(k+1)*(k+1)=k*k+k+k+1:=by grind
  omega
 rw[<-e3]at h2;exact B9l (show(g*x/(k+1)+(g*x%(k+1)+cy)/(k+1))*(k+1)<(k+1)*(k+1)by omega)
theorem DvM.next{W j g:Nat}{vs us:List Nat}{i cy br:Nat}{zs:List Nat}(h:DvM W j g vs us i cy br zs)(hW:0<W)(hg:g<W)(hv:Dig W vs)(hu:Dig W us)(hi:j+i<us.length) :
  DvM W j g vs us (i+1) (g*dg vs i/W+(g*dg vs i%W+cy)/W) (if dg us (j+i)<(g*dg vs i%W+cy)%W+br then 1 else 0) (zs.set (j+i) ((dg us (j+i)+W-(g*dg vs i%W+cy)%W-br)%W)):=by
 obtain⟨h1,h2,h3,h4,h5,h6⟩:=h;have hx:=D1 hW hv i;have hux:=D1 hW hu (j+i);obtain⟨a1,a2⟩:=A76 hW hg hx h5;obtain⟨b1,b2⟩:=A9k (W:=W) (x:=dg us (j+i)) (y:=(g*dg vs i%W+cy)%W) h6 hux (B8b _ hW);obtain⟨s,hs⟩:∃s,s=(g*dg vs i%W+cy)%W:=⟨_,rfl⟩
 obtain⟨c,hc⟩:∃s,s=g*dg vs i/W+(g*dg vs i%W+cy)/W:=⟨_,rfl⟩
 rw[<-hs,<-hc]at a2;rw[<-hc]at a1;rw[<-hs]at b1 b2;rw[<-hs,<-hc];obtain⟨z,hz⟩:∃z,z=(dg us (j+i)+W-s-br)%W:=⟨_,rfl⟩
 obtain⟨e,he⟩:∃e,e=(if dg us (j+i)<s+br then 1 else 0):=⟨_,rfl⟩
 rw[<-hz,<-he]at b1;rw[<-hz]at b2;rw[<-hz,<-he];have e1:=Y7 W zs (j+i) z (by omega);rw[h3 (j+i) (K2 _)]at e1;refine⟨by simp[h1],S7 h2 _ b2,λt ht=>by rw[R4 _ _ (by omega)];exact h3 t (by omega),?_,a1,by rw[he];split<;>omega⟩;rw[N2];have e2:val W (zs.set (j+i) z)+g*(val W (vs.take i)+W^i*dg vs i)*W^j+W^(j+i)*dg us (j+i)=val W us+(c+e)*W^(j+(i+1))+W^(j+i)*dg us (j+i):=by
  calc val W (zs.set (j+i) z)+g*(val W (vs.take i)+W^i*dg vs i)*W^j+W^(j+i)*dg us (j+i)
    = (val W (zs.set (j+i) z)+W^(j+i)*dg us (j+i))+g*val W (vs.take i)*W^j+W^(j+i)*(g*dg vs i):=by rw[B8a];grind
   _=(val W zs+W^(j+i)*z)+g*val W (vs.take i)*W^j+W^(j+i)*(g*dg vs i):=by rw[e1]
   _=(val W zs+g*val W (vs.take i)*W^j)+W^(j+i)*(z+g*dg vs i):=by grind
   _=val W us+W^(j+i)*(z+(g*dg vs i+cy)+br):=by rw[h4];grind
   _=val W us+W^(j+i)*((z+s+br)+c*W):=by rw[<-a2];grind
   _=val W us+W^(j+i)*((dg us (j+i)+e*W)+c*W):=by rw[b1]
   _=val W us+(c+e)*W^(j+(i+1))+W^(j+i)*dg us (j+i):=by rw[<-B9g,Nat.pow_succ];grind
 omega
theorem DvM.last{W j g n:Nat}{vs us:List Nat}{cy br:Nat}{zs:List Nat}(h:DvM W j g vs us n cy br zs)(hW:0<W)(hu:Dig W us)(hi:j+n<us.length)(hvn:val W (vs.take n)=val W vs) :
  (zs.set (j+n) ((dg us (j+n)+W-cy-br)%W)).length=us.length/\Dig W (zs.set (j+n) ((dg us (j+n)+W-cy-br)%W))/\(∀t,j+n+1<=t->dg (zs.set (j+n) ((dg us (j+n)+W-cy-br)%W)) t=dg us t) /\
  val W (zs.set (j+n) ((dg us (j+n)+W-cy-br)%W))+g*val W vs*W^j=val W us+(if dg us (j+n)<cy+br then 1 else 0)*W^(j+n+1):=by
 obtain⟨h1,h2,h3,h4,h5,h6⟩:=h;rw[hvn]at h4;have hux:=D1 hW hu (j+n);obtain⟨b1,b2⟩:=A9k (W:=W) (x:=dg us (j+n)) (y:=cy) h6 hux h5;obtain⟨z,hz⟩:∃s,s=(dg us (j+n)+W-cy-br)%W:=⟨_,rfl⟩
 obtain⟨e,he⟩:∃e,e=(if dg us (j+n)<cy+br then 1 else 0):=⟨_,rfl⟩
 rw[<-hz,<-he]at b1;rw[<-hz]at b2;rw[<-hz,<-he];have e1:=Y7 W zs (j+n) z (by omega);rw[h3 (j+n) (K2 _)]at e1;refine⟨by simp[h1],S7 h2 _ b2,λt ht=>by rw[R4 _ _ (by omega)];exact h3 t (by omega),?_⟩;have e2:val W (zs.set (j+n) z)+g*val W vs*W^j+W^(j+n)*dg us (j+n)=val W us+e*W^(j+n+1)+W^(j+n)*dg us (j+n):=by
  calc val W (zs.set (j+n) z)+g*val W vs*W^j+W^(j+n)*dg us (j+n)
    = (val W zs+g*val W vs*W^j)+W^(j+n)*z:=by grind
   _=val W us+W^(j+n)*(z+cy+br):=by rw[h4];grind
   _=val W us+W^(j+n)*(dg us (j+n)+e*W):=by rw[b1]
   _=val W us+e*W^(j+n+1)+W^(j+n)*dg us (j+n):=by rw[Nat.pow_succ];grind
 omega
def DvA(W j:Nat)(vs us:List Nat)(i c:Nat)(zs:List Nat):Prop :=
 zs.length=us.length/\Dig W zs/\(∀t,j+i<=t->dg zs t=dg us t)/\val W zs+c*W^(j+i)=val W us+val W (vs.take i)*W^j/\c<=1
theorem DvA.start{W j:Nat}{vs us:List Nat}(hd:Dig W us):DvA W j vs us 0 0 us:=⟨rfl,hd,λ_ _=>rfl,by simp[val],by omega⟩
theorem DvA.next{W j:Nat}{vs us:List Nat}{i c:Nat}{zs:List Nat}(h:DvA W j vs us i c zs)(hW:0<W)(hv:Dig W vs)(hu:Dig W us)(hi:j+i<us.length) :
  DvA W j vs us (i+1) ((dg us (j+i)+dg vs i+c)/W) (zs.set (j+i) ((dg us (j+i)+dg vs i+c)%W)):=by
 obtain⟨h1,h2,h3,h4,h5⟩:=h;have hx:=D1 hW hv i;have hux:=D1 hW hu (j+i);have b1:=B9c (dg us (j+i)+dg vs i+c) W;obtain⟨z,hz⟩:∃s,s=(dg us (j+i)+dg vs i+c)%W:=⟨_,rfl⟩
 obtain⟨e,he⟩:∃e,e=(dg us (j+i)+dg vs i+c)/W:=⟨_,rfl⟩
 rw[<-hz,<-he]at b1;rw[<-hz,<-he];have e1:=Y7 W zs (j+i) z (by omega);rw[h3 (j+i) (K2 _)]at e1;have hzW:z<W:=by rw[hz];exact B8b _ hW
 have he1:e<=1:=by
  have:e<2:=by rw[he,B9q hW];omega
  omega
 refine⟨by simp[h1],S7 h2 _ hzW,λt ht=>by rw[R4 _ _ (by omega)];exact h3 t (by omega),?_,he1⟩;rw[N2];have e2:val W (zs.set (j+i) z)+e*W^(j+(i+1))+W^(j+i)*dg us (j+i)=val W us+(val W (vs.take i)+W^i*dg vs i)*W^j+W^(j+i)*dg us (j+i):=by
  calc val W (zs.set (j+i) z)+e*W^(j+(i+1))+W^(j+i)*dg us (j+i)
    = val W zs+W^(j+i)*(W*e+z):=by rw[<-B9g j i 1,Nat.pow_succ];grind
   _=val W zs+c*W^(j+i)+W^(j+i)*(dg us (j+i)+dg vs i):=by rw[b1];grind
   _=val W us+val W (vs.take i)*W^j+W^(j+i)*(dg us (j+i)+dg vs i):=by rw[h4]
   _=val W us+(val W (vs.take i)+W^i*dg vs i)*W^j+W^(j+i)*dg us (j+i):=by rw[B8a];grind
 omega
def DvI(W V X k:Nat)(us qs:List Nat):Prop:=Dig W us/\Dig W qs/\val W us+V*val W qs=X/\val W us<V*W^k/\∀t,t<k->dg qs t=0
theorem DvI.fit{W V X j g:Nat}{us qs zs:List Nat}(h:DvI W V X (j+1) us qs)(hW:0<W)(hV:0<V)(hg:g<W)(hj:j<qs.length)(hcase:g=val W us/W^j/V\/(g=val W us/W^j/V+1/\val W us/W^j<g*V))
  (hz:Dig W zs) (hv:val W zs+g*V*W^j=val W us):DvI W V X j zs (qs.set j g):=by
 obtain⟨h1,h2,h3,h4,h5⟩:=h;have hp:0<W^j:=B9t hW;have hq:=Y7 W qs j g hj;rw[h5 j (by omega),B9N,Nat.add_zero]at hq;have hle:g*V<=val W us/W^j:=(B9y hp).2 (by omega);have hge:g=val W us/W^j/V:=by
  rcases hcase with h|h
  ·exact h
  ·omega
 refine⟨hz,S7 h2 _ hg,?_,?_,λt ht=>by rw[R4 _ _ (by omega)];exact h5 t (by omega)⟩
 ·rw[hq,B9o,<-h3,<-hv];grind
 ·have h6:val W us/W^j<(g+1)*V:=by
   rw[hge];have:=Nat.lt_mul_div_succ (val W us/W^j) hV;rw[B8t]at this;exact this
  rw[B9q hp,B9h g,B9Y,B9h]at h6;omega
theorem DvI.back{W V X j n g e:Nat}{us qs ys zs:List Nat}(h:DvI W V X (j+1) us qs)(hW:0<W)(hV:0<V)(hg:g<W)(hj:j<qs.length)(hcase:g=val W us/W^j/V\/(g=val W us/W^j/V+1/\val W us/W^j<g*V))
  (hVM:V*W^j<=W^(j+n+1)) (hy:val W ys<W^(j+n+1)) (hv:val W ys+g*V*W^j=val W us+1*W^(j+n+1)) (hz:Dig W zs) (hzl:val W zs<W^(j+n+1)) (he:val W zs+e*W^(j+n+1)=val W ys+V*W^j):0<g/\DvI W V X j zs (qs.set j (g-1)):=by
 have hp:0<W^j:=B9t hW;generalize W^(j+n+1)=M at hy hv hzl he hVM;rw[B9Y]at hv;have hgt:val W us<g*V*W^j:=by omega
 have hg1:g=val W us/W^j/V+1:=by
  rcases hcase with h'|h'
  ·exfalso;have h6:g*V<=val W us/W^j:=by rw[h'];exact B9m _ _
   have h7:=(B9y hp).1 h6;omega
  ·exact h'.1
 have hg0:0<g:=by rw[hg1];exact Nat.succ_pos _
 obtain⟨q,rfl⟩:∃q,g=q+1:=⟨g-1,by omega⟩
 refine⟨hg0,?_⟩;rw[Nat.add_sub_cancel];refine h.fit hW hV (by omega) hj (.inl (Nat.succ.inj hg1)) hz ?_;rw[B9h q 1,B9Y,B9h]at hv;have hq:q*V*W^j<=val W us:=by
  have h6:q*V<=val W us/W^j:=by rw[show q=val W us/W^j/V from Nat.succ.inj hg1];exact B9m _ _
  exact(B9y hp).1 h6
 have he1:e=1:=by
  have h8:val W ys+V*W^j<2*M:=by
   have:val W us<q*V*W^j+V*W^j:=by rw[B9h q 1,B9Y,B9h]at hgt;exact hgt
   omega
  have h9:M<=val W ys+V*W^j:=by omega
  rcases B73 e 1 with h0|h0
  ·have:e=0:=by omega
   rw[this,B8s]at he;omega
  ·rcases B73 e 2 with h2|h2
   ·omega
   ·have:2*M<=e*M:=B8q _ h2;omega
 rw[he1,B9Y]at he;omega
theorem DvI.done{W V X:Nat}{us qs:List Nat}(h:DvI W V X 0 us qs)(hV:0<V):val W qs=X/V/\val W us=X%V:=by
 obtain⟨h1,h2,h3,h4,h5⟩:=h;rw[Nat.pow_zero,B9P]at h4;rw[<-h3,B9k _ _ hV,B80 h4,Nat.zero_add,B9I,Nat.mod_eq_of_lt h4];exact⟨rfl,rfl⟩
end Go.Proofs.YtgpglgbcobeogaaGreatDoor
