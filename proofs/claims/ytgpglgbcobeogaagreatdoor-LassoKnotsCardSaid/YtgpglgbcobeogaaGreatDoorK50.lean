/-
  The claim's theorem: LassoKnotsZ.
-/
import Derived.Test.YtgpglgbcobeogaaGreatDoorK49
set_option linter.unusedSimpArgs false
set_option linter.unusedVariables false
set_option maxRecDepth 100000
namespace Go.Proofs.YtgpglgbcobeogaaGreatDoor.lassoKnots
open Go.ChangeShapes Go.WideShapes Go.ChangeAt Go.RowKit
theorem B8v:∀t∈Tryz.f8.params.toList,Tryz.prog.readableRec t=true/\t<Tryz.prog.types.size:=by
 have h:(Tryz.f8.params.toList.all λt=>Tryz.prog.readableRec t&&decide (t<Tryz.prog.types.size))=true:=by kernel_rfl
 intro t ht;have:=List.all_eq_true.1 h t ht
 simpa using this
theorem B6t(H:Type)(enc:TypeId×Value->H)(W:World)(base:Nat)(args:Array Value)(ds gs:List (DataW H))(before:List MemPlace)
  (hval:∀(j:Nat) t v,Tryz.f8.params[j]?=some t->args[j]?=some v->Value.okWide Tryz.prog W .any base t v)
  (hW:DataW.Whole enc Tryz.prog Tryz.f8.params.toList Rows.lassoKnotsSpec.vars false W args.toList ds gs before) (hL:laidMetH Tryz.prog Rows.lassoKnotsRow.laid W) :
  Calls Tryz.prog 8 args W λe W'=>∃v,e = .returned v/\Rows.lassoKnotsSpec.post enc Tryz.prog Tryz.f8 false true false false W args v W':=by
 have hW':=hW;obtain⟨p,q,hA0,hV,rfl,hfz,hnd⟩:=hW;have hA:DataW.TrodAll enc Tryz.prog W 0 (λ_=>true) true Tryz.f8.params.toList args.toList ds p:=hA0;rw[Tryz.params8]at hA hval;obtain⟨v0,vs0,d0,ds0,p0,q0,ha0,rfl,rfl,h0,hA1⟩:=C1R hA;obtain⟨v1,vs1,d1,ds1,p1,q1,rfl,rfl,rfl,h1,hA2⟩:=C1R hA1;obtain⟨v2,vs2,d2,ds2,p2,q2,rfl,rfl,rfl,h2,hA3⟩:=C1R hA2;obtain⟨v3,vs3,d3,ds3,p3,q3,rfl,rfl,rfl,h3,hA4⟩:=C1R hA3;obtain⟨rfl,rfl,rfl⟩:=trodAll_nil hA4;obtain rfl:args=#[v0,v1,v2,v3]:=by
  cases args
  simp_all
 obtain⟨rfl,rfl⟩:=trodVars_none hV;obtain⟨A0,l0,c0,rfl,hl0,hn0,hb0,hc0⟩:=B6S (hval 0 22 v0 rfl rfl) h0;obtain⟨A1,l1,c1,rfl,hl1,hn1,hb1⟩:=B3M (hval 1 22 v1 rfl rfl) h1;obtain⟨n2,rfl,rfl,rfl,w2⟩:=open_int C1U (hval 2 3 v2 rfl rfl) h2;obtain⟨lo2,hi2⟩:=bounds_i64 w2;obtain⟨n3,rfl,rfl,rfl,w3⟩:=open_int C1U (hval 3 3 v3 rfl rfl) h3;obtain⟨lo3,hi3⟩:=bounds_i64 w3;refine(B50 A0 l0 c0 A1 l1 c1 n2 n3 hn0 hc0 hb0 hn1 hb1 lo2 hi2 lo3 hi3 W hl0 hl1 (B89 (by kernel_rfl) hL)).mono λe W' ⟨he,hg⟩=>?_;exact⟨_,he,B8G hW' rfl rfl rfl rfl (by kernel_rfl) B8v hg⟩
def wit:Array Value:=#[.slice none 0 0,.slice none 0 0,.int .i64 0,.int .i64 0]
theorem B5z(os:Os):laidMet Tryz.prog Rows.lassoKnotsRow.laid ((laidWorld os).forCall (λ_ _=>0) ⟨#[],wit,[]⟩).memory :=
 laidMet_of_run' 8 (by kernel_rfl) (by kernel_rfl)
theorem reads(os:Os){H:Type}(enc:TypeId×Value->H):∃places,DataW.whole enc Tryz.prog ((laidWorld os).forCall (λ_ _=>0) ⟨#[],wit,[]⟩).memory Tryz.f8.params.toList Rows.lassoKnotsSpec.vars false wit.toList 8=some ([.nil,.nil,.lit (.int .i64 0),.lit (.int .i64 0)],[],places) :=
 ⟨[],by kernel_rfl⟩
theorem B6h(os:Os)(started:os.Started)(H:Type)(enc:TypeId×Value->H)(F:Stop.Interp) :
  ReturnsInHanded {} Tryz.checked os 8 .any ((OpenSpec.ofChange Rows.lassoKnotsSpec).preRow enc Tryz.prog Tryz.f8 Rows.lassoKnotsRow.domain false Rows.lassoKnotsRow.laid) (((OpenSpec.ofChange Rows.lassoKnotsSpec).at F).post enc Tryz.prog Tryz.f8 false true false false):=by
 obtain⟨places,hx⟩:=reads os enc
 refine returnsInHanded_of_row (C:=Tryz.checked) (s:=OpenSpec.ofChange Rows.lassoKnotsSpec) B7W started (by kernel_rfl) Tryz.func8
  (witness_row_at (enc:=enc) (C:=Tryz.checked) false (laidWorld os) wit rfl (by kernel_rfl) (by kernel_rfl) (by kernel_rfl)
   (OpenSpec.preRow_of_cond 8 hx (by kernel_rfl) (λk hk=>by cases hk) (by kernel_rfl) (B5z os))) ?_
 intro W base args ds gs before hval hW _ _ _ hL _ _;exact B6t H enc W base args ds gs before hval hW hL
theorem B6W:Rows.LassoKnotsSaid :=
 OpenClaim.holds_of_cond 8 Tryz.f8 rfl rfl rfl rfl rfl rfl rfl ⟨rfl,rfl,rfl,rfl,rfl⟩ rfl rfl rfl rfl rfl (by kernel_rfl) Tryz.func8 (by kernel_rfl)
  (C0X (by kernel_rfl)) (by unfold Func.isWrapper;first|(rw[if_pos (by decide +kernel)];kernel_rfl)|(rw[if_neg (by decide +kernel)];exact⟨rfl,rfl⟩))
  (λos started H enc _ F=>by rw[OpenClaim.pre_eq_preRow];exact B6h os started H enc F)
theorem plain(f:FuncId)(fn:Func)(hf:Tryz.pinned.checked.prog.funcNamed Rows.lassoKnotsRow.func=some f)(hfn:Tryz.pinned.checked.prog.funcs[f]?=some fn) :
  false=Tryz.pinned.checked.prog.looks []/\∀(j:Nat) t,fn.params[j]?=some t->Tryz.pinned.checked.prog.wantsStandIn t=false:=by
 obtain rfl:f=8:=B9Z ((show Tryz.prog.funcNamed Rows.lassoKnotsRow.func=some 8 by kernel_rfl).symm.trans hf) |>.symm;obtain rfl:fn=Tryz.f8:=(B9Z (Tryz.func8.symm.trans hfn)).symm;refine⟨by kernel_rfl,λj t ht=>?_⟩;have h:(Tryz.f8.params.toList.all λt=>!Tryz.prog.wantsStandIn t)=true:=by kernel_rfl
 have:=List.all_eq_true.1 h t (Array.mem_toList_iff.2 (Array.mem_of_getElem? ht));have h2:Tryz.prog.wantsStandIn t=false:=by simpa using this
 exact h2
theorem card:Rows.LassoKnotsCardSaid :=
 Claim7.holds_tied_plain_at .later [] _ _ _ _ B6W (λ_ h=>by cases h) (by kernel_rfl) (λ_ h=>by cases h) lassoKnots_row_tie rfl ⟨rfl,rfl⟩ (by kernel_rfl) rfl plain (by kernel_rfl)
end Go.Proofs.YtgpglgbcobeogaaGreatDoor.lassoKnots
namespace Go.Proofs.YtgpglgbcobeogaaGreatDoor
theorem lassoKnots_holds:Rows.LassoKnotsCardSaid:=lassoKnots.card
#print axioms lassoKnots_holds
end Go.Proofs.YtgpglgbcobeogaaGreatDoor
