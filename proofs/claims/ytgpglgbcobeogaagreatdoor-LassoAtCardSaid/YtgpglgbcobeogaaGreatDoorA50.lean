/-
  The claim's theorem: LassoAtZ.
-/
import Derived.Test.YtgpglgbcobeogaaGreatDoorA49
set_option linter.unusedSimpArgs false
set_option linter.unusedVariables false
set_option maxRecDepth 100000
namespace Go.Proofs.YtgpglgbcobeogaaGreatDoor.lassoAt
open Go.ChangeShapes Go.WideShapes Go.ChangeAt Go.RowKit
theorem B4f : ∀ t ∈ Tryz.f6.params.toList,Tryz.prog.readableRec t = true ∧ t < Tryz.prog.types.size:=by
 have h : (Tryz.f6.params.toList.all fun t=>Tryz.prog.readableRec t && decide (t < Tryz.prog.types.size)) = true:=by kernel_rfl
 intro t ht
 have := List.all_eq_true.1 h t ht
 simpa using this
theorem A9b (H : Type) (enc : TypeId × Value → H) (W : World) (base : Nat) (args : Array Value) (ds gs : List (DataW H)) (before : List MemPlace)
  (hval : ∀ (j : Nat) t v,Tryz.f6.params[j]? = some t → args[j]? = some v → Value.okWide Tryz.prog W .any base t v)
  (hW : DataW.Whole enc Tryz.prog Tryz.f6.params.toList Rows.lassoAtSpec.vars false W args.toList ds gs before) (hL : laidMetH Tryz.prog Rows.lassoAtRow.laid W) :
  Calls Tryz.prog 6 args W fun e W'=>∃ v,e = .returned v ∧ Rows.lassoAtSpec.post enc Tryz.prog Tryz.f6 false true false false W args v W':=by
 have hW':=hW
 obtain ⟨p,q,hA0,hV,rfl,hfz,hnd⟩:=hW
 have hA : DataW.TrodAll enc Tryz.prog W 0 (fun _=>true) true Tryz.f6.params.toList args.toList ds p:=hA0
 rw [Tryz.params6] at hA hval
 obtain ⟨v0,vs0,d0,ds0,p0,q0,ha0,rfl,rfl,h0,hA1⟩:=trodAll_cons hA
 obtain ⟨v1,vs1,d1,ds1,p1,q1,rfl,rfl,rfl,h1,hA2⟩:=trodAll_cons hA1
 obtain ⟨v2,vs2,d2,ds2,p2,q2,rfl,rfl,rfl,h2,hA3⟩:=trodAll_cons hA2
 obtain ⟨v3,vs3,d3,ds3,p3,q3,rfl,rfl,rfl,h3,hA4⟩:=trodAll_cons hA3
 obtain ⟨v4,vs4,d4,ds4,p4,q4,rfl,rfl,rfl,h4,hA5⟩:=trodAll_cons hA4
 obtain ⟨v5,vs5,d5,ds5,p5,q5,rfl,rfl,rfl,h5,hA6⟩:=trodAll_cons hA5
 obtain ⟨v6,vs6,d6,ds6,p6,q6,rfl,rfl,rfl,h6,hA7⟩:=trodAll_cons hA6
 obtain ⟨rfl,rfl,rfl⟩:=trodAll_nil hA7
 obtain rfl : args = #[v0,v1,v2,v3,v4,v5,v6]:=by
  cases args
  simp_all
 obtain ⟨rfl,rfl⟩:=trodVars_none hV
 obtain ⟨A0,l0,c0,rfl,hl0,hn0,hb0⟩:=B4G (hval 0 22 v0 rfl rfl) h0
 obtain ⟨A1,l1,c1,rfl,hl1,hn1,hb1,hc1⟩:=B3L (hval 1 22 v1 rfl rfl) h1
 obtain ⟨n2,rfl,rfl,rfl,w2⟩:=open_int Tryz.underlying3 (hval 2 3 v2 rfl rfl) h2
 obtain ⟨lo2,hi2⟩:=bounds_i64 w2
 obtain ⟨n3,rfl,rfl,rfl,w3⟩:=open_int Tryz.underlying3 (hval 3 3 v3 rfl rfl) h3
 obtain ⟨lo3,hi3⟩:=bounds_i64 w3
 obtain ⟨n4,rfl,rfl,rfl,w4⟩:=open_int Tryz.underlying3 (hval 4 3 v4 rfl rfl) h4
 obtain ⟨lo4,hi4⟩:=bounds_i64 w4
 obtain ⟨n5,rfl,rfl,rfl,w5⟩:=open_int Tryz.underlying3 (hval 5 3 v5 rfl rfl) h5
 obtain ⟨lo5,hi5⟩:=bounds_i64 w5
 obtain ⟨n6,rfl,rfl,rfl,w6⟩:=open_int Tryz.underlying3 (hval 6 3 v6 rfl rfl) h6
 obtain ⟨lo6,hi6⟩:=bounds_i64 w6
 refine (B01 A0 l0 c0 A1 l1 c1 n2 n3 n4 n5 n6 hn0 hb0 hn1 hc1 hb1 lo2 hi2 lo3 hi3 lo4 hi4 lo5 hi5 lo6 hi6 W hl0 hl1 (B04 (by kernel_rfl) hL)).mono fun e W' ⟨he,hg⟩=>?_
 exact ⟨_,he,B29 hW' rfl rfl rfl rfl (by kernel_rfl) B4f hg⟩
def wit : Array Value:=#[.slice none 0 0,.slice none 0 0,.int .i64 0,.int .i64 0,.int .i64 0,.int .i64 0,.int .i64 0]
theorem B3M (os : Os) : laidMet Tryz.prog Rows.lassoAtRow.laid ((laidWorld os).forCall (fun _ _=>0) ⟨#[],wit,[]⟩).memory :=
 laidMet_of_run' 8 (by kernel_rfl) (by kernel_rfl)
theorem reads (os : Os) {H : Type} (enc : TypeId × Value → H) : ∃ places,DataW.whole enc Tryz.prog ((laidWorld os).forCall (fun _ _=>0) ⟨#[],wit,[]⟩).memory Tryz.f6.params.toList Rows.lassoAtSpec.vars false wit.toList 8 = some ([.nil,.nil,.lit (.int .i64 0),.lit (.int .i64 0),.lit (.int .i64 0),.lit (.int .i64 0),.lit (.int .i64 0)],[],places) :=
 ⟨[],by kernel_rfl⟩
theorem B1z (os : Os) (started : os.Started) (H : Type) (enc : TypeId × Value → H) (F : Stop.Interp) :
  ReturnsInHanded {} Tryz.checked os 6 .any ((OpenSpec.ofChange Rows.lassoAtSpec).preRow enc Tryz.prog Tryz.f6 Rows.lassoAtRow.domain false Rows.lassoAtRow.laid) (((OpenSpec.ofChange Rows.lassoAtSpec).at F).post enc Tryz.prog Tryz.f6 false true false false):=by
 obtain ⟨places,hx⟩:=reads os enc
 refine returnsInHanded_of_row (C:=Tryz.checked) (s:=OpenSpec.ofChange Rows.lassoAtSpec) B4U started (by kernel_rfl) Tryz.func6
  (witness_row_at (enc:=enc) (C:=Tryz.checked) false (laidWorld os) wit rfl (by kernel_rfl) (by kernel_rfl) (by kernel_rfl)
   (OpenSpec.preRow_of_cond 8 hx (by kernel_rfl) (fun k hk=>by cases hk) (by kernel_rfl) (B3M os))) ?_
 intro W base args ds gs before hval hW _ _ _ hL _ _
 exact A9b H enc W base args ds gs before hval hW hL
theorem B2X : Rows.LassoAtSaid :=
 OpenClaim.holds_of_cond 6 Tryz.f6 rfl rfl rfl rfl rfl rfl rfl ⟨rfl,rfl,rfl,rfl,rfl⟩ rfl rfl rfl rfl rfl (by kernel_rfl) Tryz.func6 (by kernel_rfl)
  (of_decide_eq_true (by kernel_rfl)) (by unfold Func.isWrapper;first | (rw [if_pos (by decide +kernel)];kernel_rfl) | (rw [if_neg (by decide +kernel)];exact ⟨rfl,rfl⟩))
  (fun os started H enc _ F=>by rw [OpenClaim.pre_eq_preRow];exact B1z os started H enc F)
theorem plain (f : FuncId) (fn : Func) (hf : Tryz.pinned.checked.prog.funcNamed Rows.lassoAtRow.func = some f) (hfn : Tryz.pinned.checked.prog.funcs[f]? = some fn) :
  false = Tryz.pinned.checked.prog.looks [] ∧ ∀ (j : Nat) t,fn.params[j]? = some t → Tryz.pinned.checked.prog.wantsStandIn t = false:=by
 obtain rfl : f = 6:=Option.some.inj ((show Tryz.prog.funcNamed Rows.lassoAtRow.func = some 6 by kernel_rfl).symm.trans hf) |>.symm
 obtain rfl : fn = Tryz.f6:=(Option.some.inj (Tryz.func6.symm.trans hfn)).symm
 refine ⟨by kernel_rfl,fun j t ht=>?_⟩
 have h : (Tryz.f6.params.toList.all fun t=>!Tryz.prog.wantsStandIn t) = true:=by kernel_rfl
 have := List.all_eq_true.1 h t (Array.mem_toList_iff.2 (Array.mem_of_getElem? ht))
 have h2 : Tryz.prog.wantsStandIn t = false:=by simpa using this
 exact h2
theorem card : Rows.LassoAtCardSaid :=
 Claim7.holds_tied_plain_at .later [] _ _ _ _ B2X (fun _ h=>by cases h) (by kernel_rfl) (fun _ h=>by cases h) lassoAt_row_tie rfl ⟨rfl,rfl⟩ (by kernel_rfl) rfl plain (by kernel_rfl)
end Go.Proofs.YtgpglgbcobeogaaGreatDoor.lassoAt
namespace Go.Proofs.YtgpglgbcobeogaaGreatDoor
theorem lassoAt_holds : Rows.LassoAtCardSaid:=lassoAt.card
#print axioms lassoAt_holds
end Go.Proofs.YtgpglgbcobeogaaGreatDoor
