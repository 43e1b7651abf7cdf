/- MsgTells: whatever letters and texts: put and got as the document says: the call returns true, for every input; no conditions. -/
import Derived.Test.YtkffgdfbdmgncaaRows
import Derived.Test.YtkffgdfbdmgncaaOpen
import Derived.Test.YtkffgdfbdmgncaaPost
import Derived.OpenShut
import Derived.ChangeMaps5
import Derived.Test.YtkffgdfbdmgncaaMsgTells
namespace Go.Proofs.Ytkffgdfbdmgncaa
open Go.ChangeShapes Go.WideShapes Go.ChangeAt Go.RowKit Go.Deep
theorem Try.laidOut:laidOutB Try.prog = true:=by kernel_rfl
theorem Try.own:ownKnob Try.prog.godebug = none:=by kernel_rfl
theorem le_max {n:Nat} (h:n ≤ maxLen):(n:Int) ≤ 9223372036854775807:=by
 have e:maxLen = 9223372036854775807:=by decide
 rw [e] at h
 exact Int.ofNat_le.2 h
namespace tells
set_option maxRecDepth 100000 in
theorem lifted (os:Os) (started:os.Started) (H:Type) (enc:TypeId × Value → H) :
  ReturnsInHanded {} Try.checked os 3 .any (Rows.msgTellsSpec.pre6 enc Try.prog Try.f3 Rows.msgTellsRow.domain false) (Rows.msgTellsSpec.post enc Try.prog Try.f3 false true false false):=by
 refine returnsInHanded_of_change (C:=Try.checked) Try.own started (by kernel_rfl) Try.func3
  (ChangeSpec.witness6 (enc:=enc) (C:=Try.checked) false ⟨#[],#[.agg #[.int .i64 0,.int .i64 0,.int .i64 0,.bool false,.int .i64 0,.int .i64 0,.int .i64 0,.int .i64 0,.int .i64 0,.int .i64 0,.int .i64 0,.int .i64 0,.string ⟨#[]⟩,.int .i64 0,.int .i64 0,.int .i64 0,.bool false,.int .i64 0,.int .i64 0,.int .i64 0,.string ⟨#[]⟩,.bool false,.int .i64 0,.int .i64 0,.int .i64 0,.string ⟨#[]⟩],.string ⟨#[]⟩],[]⟩ 8 (by kernel_rfl) (by kernel_rfl) (by kernel_rfl) (by kernel_rfl)) ?_
 intro W base args ds gs before hval0 hW _ _
 have hval:∀ (j:Nat) t v,Try.f3.params[j]? = some t → args[j]? = some v → Value.okWide Try.prog W .any base t v:=hval0
 have hW':=hW
 obtain ⟨p,q,hA0,hV,rfl,hfz,hnd⟩:=hW
 have hA:DataW.TrodAll enc Try.prog W 0 (fun _=>true) true Try.f3.params.toList args.toList ds p:=hA0
 rw [Try.params3] at hA hval
 obtain ⟨v0,vs0,d0,ds0,p0,q0,hargs,rfl,rfl,h0,r0⟩:=trodAll_cons hA
 obtain ⟨v1,vs1,d1,ds1,p1,q1,rfl,rfl,rfl,h1,r1⟩:=trodAll_cons r0
 obtain ⟨rfl,rfl,rfl⟩:=trodAll_nil r1
 obtain rfl:args = #[v0,v1]:=by cases args; simp_all
 obtain ⟨cs0,rfl,hz0,hc0⟩:=open_agg Try.underlying31 (show flat Try.prog 6 31 = some [0,0,0,1,0,0,0,0,0,0,0,0,2,0,0,0,1,0,0,0,2,1,0,0,0,2] by kernel_rfl) (by kernel_rfl) (hval 0 31 v0 rfl rfl) h0
 obtain ⟨_,e0_0,l0,rfl,w0_0⟩:=hc0 0 0 rfl
 obtain ⟨_,e0_1,l1,rfl,w0_1⟩:=hc0 1 0 rfl
 obtain ⟨_,e0_2,l2,rfl,w0_2⟩:=hc0 2 0 rfl
 obtain ⟨_,e0_3,l3,rfl⟩:=hc0 3 1 rfl
 obtain ⟨_,e0_4,l4,rfl,w0_4⟩:=hc0 4 0 rfl
 obtain ⟨_,e0_5,l5,rfl,w0_5⟩:=hc0 5 0 rfl
 obtain ⟨_,e0_6,l6,rfl,w0_6⟩:=hc0 6 0 rfl
 obtain ⟨_,e0_7,l7,rfl,w0_7⟩:=hc0 7 0 rfl
 obtain ⟨_,e0_8,l8,rfl,w0_8⟩:=hc0 8 0 rfl
 obtain ⟨_,e0_9,l9,rfl,w0_9⟩:=hc0 9 0 rfl
 obtain ⟨_,e0_10,l10,rfl,w0_10⟩:=hc0 10 0 rfl
 obtain ⟨_,e0_11,l11,rfl,w0_11⟩:=hc0 11 0 rfl
 obtain ⟨_,e0_12,l12,rfl,_⟩:=hc0 12 2 rfl
 obtain ⟨_,e0_13,l13,rfl,w0_13⟩:=hc0 13 0 rfl
 obtain ⟨_,e0_14,l14,rfl,w0_14⟩:=hc0 14 0 rfl
 obtain ⟨_,e0_15,l15,rfl,w0_15⟩:=hc0 15 0 rfl
 obtain ⟨_,e0_16,l16,rfl⟩:=hc0 16 1 rfl
 obtain ⟨_,e0_17,l17,rfl,w0_17⟩:=hc0 17 0 rfl
 obtain ⟨_,e0_18,l18,rfl,w0_18⟩:=hc0 18 0 rfl
 obtain ⟨_,e0_19,l19,rfl,w0_19⟩:=hc0 19 0 rfl
 obtain ⟨_,e0_20,l20,rfl,_⟩:=hc0 20 2 rfl
 obtain ⟨_,e0_21,l21,rfl⟩:=hc0 21 1 rfl
 obtain ⟨_,e0_22,l22,rfl,w0_22⟩:=hc0 22 0 rfl
 obtain ⟨_,e0_23,l23,rfl,w0_23⟩:=hc0 23 0 rfl
 obtain ⟨_,e0_24,l24,rfl,w0_24⟩:=hc0 24 0 rfl
 obtain ⟨_,e0_25,l25,rfl,_⟩:=hc0 25 2 rfl
 obtain rfl:cs0 = [.int .i64 l0,.int .i64 l1,.int .i64 l2,.bool l3,.int .i64 l4,.int .i64 l5,.int .i64 l6,.int .i64 l7,.int .i64 l8,.int .i64 l9,.int .i64 l10,.int .i64 l11,.string l12,.int .i64 l13,.int .i64 l14,.int .i64 l15,.bool l16,.int .i64 l17,.int .i64 l18,.int .i64 l19,.string l20,.bool l21,.int .i64 l22,.int .i64 l23,.int .i64 l24,.string l25].toArray:=agg_eq hz0 (fun j hj=>by
  match j,hj with
  | 0,_=>exact e0_0
  | 1,_=>exact e0_1
  | 2,_=>exact e0_2
  | 3,_=>exact e0_3
  | 4,_=>exact e0_4
  | 5,_=>exact e0_5
  | 6,_=>exact e0_6
  | 7,_=>exact e0_7
  | 8,_=>exact e0_8
  | 9,_=>exact e0_9
  | 10,_=>exact e0_10
  | 11,_=>exact e0_11
  | 12,_=>exact e0_12
  | 13,_=>exact e0_13
  | 14,_=>exact e0_14
  | 15,_=>exact e0_15
  | 16,_=>exact e0_16
  | 17,_=>exact e0_17
  | 18,_=>exact e0_18
  | 19,_=>exact e0_19
  | 20,_=>exact e0_20
  | 21,_=>exact e0_21
  | 22,_=>exact e0_22
  | 23,_=>exact e0_23
  | 24,_=>exact e0_24
  | 25,_=>exact e0_25
  | n + 26,hj=>exact absurd hj (by simp))
 obtain ⟨s,rfl,eS1,_,w1⟩:=Go.ChangeMaps.open_string Try.underlying9 (hval 1 9 v1 rfl rfl) h1
 clear hA0 hval0
 refine (tells_any ⟨l0,l1,l2,l3,⟨l4,l5,l6,l7,l8,l9,l10,l11,l12⟩,⟨l13,l14,l15,⟨l16,l17,l18,l19,l20,l21,l22,l23,l24,l25⟩⟩⟩ s (le_max w1) W).mono fun e W' ⟨he,hk⟩=>?_
 subst he
 exact ⟨_,rfl,law_post (tb:=4) Try.laidOut (by rw [Try.params3]; intro t ht; simp at ht; first | (rcases ht with rfl | rfl <;> exact ⟨by kernel_rfl,of_decide_eq_true (by kernel_rfl)⟩)) (by kernel_rfl) Try.underlying4 rfl rfl hW' hk⟩
theorem proved:Rows.MsgTellsSaid:=
 OpenClaim.holds_of_wide 3 Try.f3 rfl rfl rfl rfl rfl rfl rfl ⟨rfl,rfl,rfl,rfl,rfl⟩ rfl rfl rfl rfl rfl (by kernel_rfl) Try.func3 (by kernel_rfl)
  (of_decide_eq_true (by kernel_rfl)) (by unfold Func.isWrapper; first | (rw [if_pos (by decide +kernel)]; kernel_rfl) | (rw [if_neg (by decide +kernel)]; exact ⟨rfl,rfl⟩))
  (fun os started H enc _=>lifted os started H enc)
end tells
#print axioms tells.proved
end Go.Proofs.Ytkffgdfbdmgncaa
