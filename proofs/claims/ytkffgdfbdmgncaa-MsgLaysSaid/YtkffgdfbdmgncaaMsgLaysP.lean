/- MsgLays: the same of letters that are right: the call returns true, for every input; no conditions. -/
import Derived.Test.YtkffgdfbdmgncaaRows
import Derived.Test.YtkffgdfbdmgncaaOpen
import Derived.Test.YtkffgdfbdmgncaaPost
import Derived.OpenShut
namespace Go.Proofs.Ytkffgdfbdmgncaa
open Go.ChangeShapes Go.WideShapes Go.ChangeAt Go.RowKit Go.Deep
theorem Try.laidOut:laidOutB Try.prog = true:=by kernel_rfl
theorem Try.own:ownKnob Try.prog.godebug = none:=by kernel_rfl
theorem wf_bd {a:Int} (h:(Lit.int .i64 a).wf = true):-9223372036854775808 ≤ a ∧ a ≤ 9223372036854775807:=bounds_i64 h
namespace lays
set_option maxRecDepth 100000 in
theorem lifted (os:Os) (started:os.Started) (H:Type) (enc:TypeId × Value → H) :
  ReturnsInHanded {} Try.checked os 4 .any (Rows.msgLaysSpec.pre6 enc Try.prog Try.f4 Rows.msgLaysRow.domain false) (Rows.msgLaysSpec.post enc Try.prog Try.f4 false true false false):=by
 refine returnsInHanded_of_change (C:=Try.checked) Try.own started (by kernel_rfl) Try.func4
  (ChangeSpec.witness6 (enc:=enc) (C:=Try.checked) false ⟨#[],#[.agg #[.int .i64 0,.int .i64 0,.int .i64 0,.int .i64 0,.int .i64 0,.int .i64 0,.bool false,.int .i64 0,.int .i64 0,.int .i64 0,.int .i64 0,.int .i64 0,.int .i64 0,.int .i64 0,.int .i64 0,.string ⟨#[]⟩,.int .i64 0,.int .i64 0,.int .i64 0,.int .i64 0,.int .i64 0,.int .i64 0,.int .i64 0,.string ⟨#[]⟩,.string ⟨#[]⟩]],[]⟩ 8 (by kernel_rfl) (by kernel_rfl) (by kernel_rfl) (by kernel_rfl)) ?_
 intro W base args ds gs before hval0 hW _ _
 have hval:∀ (j:Nat) t v,Try.f4.params[j]? = some t → args[j]? = some v → Value.okWide Try.prog W .any base t v:=hval0
 have hW':=hW
 obtain ⟨p,q,hA0,hV,rfl,hfz,hnd⟩:=hW
 have hA:DataW.TrodAll enc Try.prog W 0 (fun _=>true) true Try.f4.params.toList args.toList ds p:=hA0
 rw [Try.params4] at hA hval
 obtain ⟨v0,vs0,d0,ds0,p0,q0,hargs,rfl,rfl,h0,r0⟩:=trodAll_cons hA
 obtain ⟨rfl,rfl,rfl⟩:=trodAll_nil r0
 obtain rfl:args = #[v0]:=by cases args; simp_all
 obtain ⟨cs0,rfl,hz0,hc0⟩:=open_agg Try.underlying45 (show flat Try.prog 4 45 = some [0,0,0,0,0,0,1,0,0,0,0,0,0,0,0,2,0,0,0,0,0,0,0,2,2] by kernel_rfl) (by kernel_rfl) (hval 0 45 v0 rfl rfl) h0
 obtain ⟨_,e0_0,pa0,rfl,w0_0⟩:=hc0 0 0 rfl
 obtain ⟨_,e0_1,pb0,rfl,w0_1⟩:=hc0 1 0 rfl
 obtain ⟨_,e0_2,pc0,rfl,w0_2⟩:=hc0 2 0 rfl
 obtain ⟨_,e0_3,pd0,rfl,w0_3⟩:=hc0 3 0 rfl
 obtain ⟨_,e0_4,pe0,rfl,w0_4⟩:=hc0 4 0 rfl
 obtain ⟨_,e0_5,pf0,rfl,w0_5⟩:=hc0 5 0 rfl
 obtain ⟨_,e0_6,pg0,rfl⟩:=hc0 6 1 rfl
 obtain ⟨_,e0_7,ka0,rfl,w0_7⟩:=hc0 7 0 rfl
 obtain ⟨_,e0_8,kb0,rfl,w0_8⟩:=hc0 8 0 rfl
 obtain ⟨_,e0_9,kc0,rfl,w0_9⟩:=hc0 9 0 rfl
 obtain ⟨_,e0_10,kd0,rfl,w0_10⟩:=hc0 10 0 rfl
 obtain ⟨_,e0_11,ke0,rfl,w0_11⟩:=hc0 11 0 rfl
 obtain ⟨_,e0_12,kf0,rfl,w0_12⟩:=hc0 12 0 rfl
 obtain ⟨_,e0_13,kg0,rfl,w0_13⟩:=hc0 13 0 rfl
 obtain ⟨_,e0_14,kh0,rfl,w0_14⟩:=hc0 14 0 rfl
 obtain ⟨_,e0_15,ki0,rfl,_⟩:=hc0 15 2 rfl
 obtain ⟨_,e0_16,na0,rfl,w0_16⟩:=hc0 16 0 rfl
 obtain ⟨_,e0_17,nb0,rfl,w0_17⟩:=hc0 17 0 rfl
 obtain ⟨_,e0_18,nc0,rfl,w0_18⟩:=hc0 18 0 rfl
 obtain ⟨_,e0_19,nd0,rfl,w0_19⟩:=hc0 19 0 rfl
 obtain ⟨_,e0_20,ne0,rfl,w0_20⟩:=hc0 20 0 rfl
 obtain ⟨_,e0_21,nf0,rfl,w0_21⟩:=hc0 21 0 rfl
 obtain ⟨_,e0_22,ng0,rfl,w0_22⟩:=hc0 22 0 rfl
 obtain ⟨_,e0_23,nh0,rfl,_⟩:=hc0 23 2 rfl
 obtain ⟨_,e0_24,ni0,rfl,_⟩:=hc0 24 2 rfl
 obtain rfl:cs0 = [.int .i64 pa0,.int .i64 pb0,.int .i64 pc0,.int .i64 pd0,.int .i64 pe0,.int .i64 pf0,.bool pg0,.int .i64 ka0,.int .i64 kb0,.int .i64 kc0,.int .i64 kd0,.int .i64 ke0,.int .i64 kf0,.int .i64 kg0,.int .i64 kh0,.string ki0,.int .i64 na0,.int .i64 nb0,.int .i64 nc0,.int .i64 nd0,.int .i64 ne0,.int .i64 nf0,.int .i64 ng0,.string nh0,.string ni0].toArray:=agg_eq hz0 (fun j hj=>by
  match j,hj with
  | 0,_=>exact e0_0
  | 1,_=>exact e0_1
  | 2,_=>exact e0_2
  | 3,_=>exact e0_3
  | 4,_=>exact e0_4
  | 5,_=>exact e0_5
  | 6,_=>exact e0_6
  | 7,_=>exact e0_7
  | 8,_=>exact e0_8
  | 9,_=>exact e0_9
  | 10,_=>exact e0_10
  | 11,_=>exact e0_11
  | 12,_=>exact e0_12
  | 13,_=>exact e0_13
  | 14,_=>exact e0_14
  | 15,_=>exact e0_15
  | 16,_=>exact e0_16
  | 17,_=>exact e0_17
  | 18,_=>exact e0_18
  | 19,_=>exact e0_19
  | 20,_=>exact e0_20
  | 21,_=>exact e0_21
  | 22,_=>exact e0_22
  | 23,_=>exact e0_23
  | 24,_=>exact e0_24
  | n + 25,hj=>exact absurd hj (by simp))
 clear hA0 hval0
 refine (lays_any ⟨pa0,pb0,pc0,pd0,pe0,pf0,pg0,⟨ka0,kb0,kc0,kd0,ke0,kf0,kg0,kh0,ki0⟩,⟨na0,nb0,nc0,nd0,ne0,nf0,ng0,nh0,ni0⟩⟩ ⟨wf_bd w0_0,wf_bd w0_1,wf_bd w0_2,wf_bd w0_3,wf_bd w0_4,wf_bd w0_5,⟨wf_bd w0_7,wf_bd w0_8,wf_bd w0_9,wf_bd w0_10,wf_bd w0_11,wf_bd w0_12,wf_bd w0_13,wf_bd w0_14⟩,⟨wf_bd w0_16,wf_bd w0_17,wf_bd w0_18,wf_bd w0_19,wf_bd w0_20,wf_bd w0_21,wf_bd w0_22⟩⟩ W).mono fun e W' ⟨he,hk⟩=>?_
 subst he
 exact ⟨_,rfl,law_post (tb:=4) Try.laidOut (by rw [Try.params4]; intro t ht; simp at ht; subst ht; exact ⟨by kernel_rfl,of_decide_eq_true (by kernel_rfl)⟩) (by kernel_rfl) Try.underlying4 rfl rfl hW' hk⟩
theorem proved:Rows.MsgLaysSaid:=
 OpenClaim.holds_of_wide 4 Try.f4 rfl rfl rfl rfl rfl rfl rfl ⟨rfl,rfl,rfl,rfl,rfl⟩ rfl rfl rfl rfl rfl (by kernel_rfl) Try.func4 (by kernel_rfl)
  (of_decide_eq_true (by kernel_rfl)) (by unfold Func.isWrapper; first | (rw [if_pos (by decide +kernel)]; kernel_rfl) | (rw [if_neg (by decide +kernel)]; exact ⟨rfl,rfl⟩))
  (fun os started H enc _=>lifted os started H enc)
end lays
#print axioms lays.proved
end Go.Proofs.Ytkffgdfbdmgncaa
