/- MsgWhole: a message cut, extended or turned in a run of bits is no letter: the call returns true, for every input; no conditions. -/
import Derived.Test.YtkffgdfbdmgncaaRows
import Derived.Test.YtkffgdfbdmgncaaOpen
import Derived.Test.YtkffgdfbdmgncaaPost
import Derived.OpenShut
import Derived.ChangeMaps5
import Derived.SizedLaws
import Derived.Test.YtkffgdfbdmgncaaMsgWhole
namespace Go.Proofs.Ytkffgdfbdmgncaa
open Go.ChangeShapes Go.WideShapes Go.ChangeAt Go.RowKit Go.Deep
theorem Try.laidOut : laidOutB Try.prog = true:=by kernel_rfl
theorem Try.own : ownKnob Try.prog.godebug = none:=by kernel_rfl
theorem wf_bd {a : Int} (h : (Lit.int .i64 a).wf = true) : -9223372036854775808 ≤ a ∧ a ≤ 9223372036854775807:=bounds_i64 h
theorem sized_mo {s : ByteArray} (h : s.data.toList.length ≤ reachBytes) : s.size ≤ 9223372036854775000:=by
 have:=reachBytes_lt
 rw [Array.length_toList] at h
 have e : s.data.size = s.size:=rfl
 omega
namespace whole
set_option maxRecDepth 100000 in
theorem lifted (os : Os) (started : os.Started) (H : Type) (enc : TypeId × Value → H) :
  ReturnsInHanded {} Try.checked os 6 .any (Rows.msgWholeSpec.pre6 enc Try.prog Try.f6 Rows.msgWholeRow.domain false) (Rows.msgWholeSpec.post enc Try.prog Try.f6 false true false false):=by
 refine returnsInHanded_of_change_sized (C:=Try.checked) Try.own started (by kernel_rfl) Try.func6
  (ChangeSpec.witness6 (enc:=enc) (C:=Try.checked) false ⟨#[],#[.agg #[.int .i64 0,.int .i64 0,.int .i64 0,.int .i64 0,.int .i64 0,.int .i64 0,.bool false,.int .i64 0,.int .i64 0,.int .i64 0,.int .i64 0,.int .i64 0,.int .i64 0,.int .i64 0,.int .i64 0,.string ⟨#[]⟩,.int .i64 0,.int .i64 0,.int .i64 0,.int .i64 0,.int .i64 0,.int .i64 0,.int .i64 0,.string ⟨#[]⟩,.string ⟨#[]⟩],.int .i64 0,.string ⟨#[]⟩,.int .i64 0,.int .i64 0],[]⟩ 8 (by kernel_rfl) (by kernel_rfl) (by kernel_rfl) (by kernel_rfl)) ?_
 intro W base args ds gs before hval0 hW _ hSZ0 _
 have hval : ∀ (j : Nat) t v,Try.f6.params[j]? = some t → args[j]? = some v → Value.okWide Try.prog W .any base t v:=hval0
 have hW':=hW
 obtain ⟨p,q,hA0,hV,rfl,hfz,hnd⟩:=hW
 have hA : DataW.TrodAll enc Try.prog W 0 (fun _=>true) true Try.f6.params.toList args.toList ds p:=hA0
 rw [Try.params6] at hA hval hSZ0
 obtain ⟨v0,vs0,d0,ds0,p0,q0,hargs,rfl,rfl,h0,r0⟩:=trodAll_cons hA
 obtain ⟨v1,vs1,d1,ds1,p1,q1,rfl,rfl,rfl,h1,r1⟩:=trodAll_cons r0
 obtain ⟨v2,vs2,d2,ds2,p2,q2,rfl,rfl,rfl,h2,r2⟩:=trodAll_cons r1
 obtain ⟨v3,vs3,d3,ds3,p3,q3,rfl,rfl,rfl,h3,r3⟩:=trodAll_cons r2
 obtain ⟨v4,vs4,d4,ds4,p4,q4,rfl,rfl,rfl,h4,r4⟩:=trodAll_cons r3
 obtain ⟨rfl,rfl,rfl⟩:=trodAll_nil r4
 obtain rfl : args = #[v0,v1,v2,v3,v4]:=by cases args; simp_all
 obtain ⟨cs0,rfl,hz0,hc0⟩:=open_agg Try.underlying45 (show flat Try.prog 4 45 = some [0,0,0,0,0,0,1,0,0,0,0,0,0,0,0,2,0,0,0,0,0,0,0,2,2] by kernel_rfl) (by kernel_rfl) (hval 0 45 v0 rfl rfl) h0
 obtain ⟨_,e0_0,pa0,rfl,w0_0⟩:=hc0 0 0 rfl
 obtain ⟨_,e0_1,pb0,rfl,w0_1⟩:=hc0 1 0 rfl
 obtain ⟨_,e0_2,pc0,rfl,w0_2⟩:=hc0 2 0 rfl
 obtain ⟨_,e0_3,pd0,rfl,w0_3⟩:=hc0 3 0 rfl
 obtain ⟨_,e0_4,pe0,rfl,w0_4⟩:=hc0 4 0 rfl
 obtain ⟨_,e0_5,pf0,rfl,w0_5⟩:=hc0 5 0 rfl
 obtain ⟨_,e0_6,pg0,rfl⟩:=hc0 6 1 rfl
 obtain ⟨_,e0_7,ka0,rfl,w0_7⟩:=hc0 7 0 rfl
 obtain ⟨_,e0_8,kb0,rfl,w0_8⟩:=hc0 8 0 rfl
 obtain ⟨_,e0_9,kc0,rfl,w0_9⟩:=hc0 9 0 rfl
 obtain ⟨_,e0_10,kd0,rfl,w0_10⟩:=hc0 10 0 rfl
 obtain ⟨_,e0_11,ke0,rfl,w0_11⟩:=hc0 11 0 rfl
 obtain ⟨_,e0_12,kf0,rfl,w0_12⟩:=hc0 12 0 rfl
 obtain ⟨_,e0_13,kg0,rfl,w0_13⟩:=hc0 13 0 rfl
 obtain ⟨_,e0_14,kh0,rfl,w0_14⟩:=hc0 14 0 rfl
 obtain ⟨_,e0_15,ki0,rfl,_⟩:=hc0 15 2 rfl
 obtain ⟨_,e0_16,na0,rfl,w0_16⟩:=hc0 16 0 rfl
 obtain ⟨_,e0_17,nb0,rfl,w0_17⟩:=hc0 17 0 rfl
 obtain ⟨_,e0_18,nc0,rfl,w0_18⟩:=hc0 18 0 rfl
 obtain ⟨_,e0_19,nd0,rfl,w0_19⟩:=hc0 19 0 rfl
 obtain ⟨_,e0_20,ne0,rfl,w0_20⟩:=hc0 20 0 rfl
 obtain ⟨_,e0_21,nf0,rfl,w0_21⟩:=hc0 21 0 rfl
 obtain ⟨_,e0_22,ng0,rfl,w0_22⟩:=hc0 22 0 rfl
 obtain ⟨_,e0_23,nh0,rfl,_⟩:=hc0 23 2 rfl
 obtain ⟨_,e0_24,ni0,rfl,_⟩:=hc0 24 2 rfl
 obtain rfl : cs0 = [.int .i64 pa0,.int .i64 pb0,.int .i64 pc0,.int .i64 pd0,.int .i64 pe0,.int .i64 pf0,.bool pg0,.int .i64 ka0,.int .i64 kb0,.int .i64 kc0,.int .i64 kd0,.int .i64 ke0,.int .i64 kf0,.int .i64 kg0,.int .i64 kh0,.string ki0,.int .i64 na0,.int .i64 nb0,.int .i64 nc0,.int .i64 nd0,.int .i64 ne0,.int .i64 nf0,.int .i64 ng0,.string nh0,.string ni0].toArray:=agg_eq hz0 (fun j hj=>by
  match j,hj with
  | 0,_=>exact e0_0
  | 1,_=>exact e0_1
  | 2,_=>exact e0_2
  | 3,_=>exact e0_3
  | 4,_=>exact e0_4
  | 5,_=>exact e0_5
  | 6,_=>exact e0_6
  | 7,_=>exact e0_7
  | 8,_=>exact e0_8
  | 9,_=>exact e0_9
  | 10,_=>exact e0_10
  | 11,_=>exact e0_11
  | 12,_=>exact e0_12
  | 13,_=>exact e0_13
  | 14,_=>exact e0_14
  | 15,_=>exact e0_15
  | 16,_=>exact e0_16
  | 17,_=>exact e0_17
  | 18,_=>exact e0_18
  | 19,_=>exact e0_19
  | 20,_=>exact e0_20
  | 21,_=>exact e0_21
  | 22,_=>exact e0_22
  | 23,_=>exact e0_23
  | 24,_=>exact e0_24
  | n + 25,hj=>exact absurd hj (by simp))
 obtain ⟨ct,rfl,_,_,w1⟩:=open_int Try.underlying3 (hval 1 3 v1 rfl rfl) h1
 obtain ⟨mo,rfl,eS2,_,w2⟩:=Go.ChangeMaps.open_string Try.underlying9 (hval 2 9 v2 rfl rfl) h2
 have hSZ2:=sized_string hSZ0 (j:=2) rfl (by show some d2 = _; rw [eS2])
 obtain ⟨at_,rfl,_,_,w3⟩:=open_int Try.underlying3 (hval 3 3 v3 rfl rfl) h3
 obtain ⟨tn,rfl,_,_,w4⟩:=open_int Try.underlying3 (hval 4 3 v4 rfl rfl) h4
 clear hA0 hval0
 refine (whole_any ⟨pa0,pb0,pc0,pd0,pe0,pf0,pg0,⟨ka0,kb0,kc0,kd0,ke0,kf0,kg0,kh0,ki0⟩,⟨na0,nb0,nc0,nd0,ne0,nf0,ng0,nh0,ni0⟩⟩ ct mo at_ tn ⟨wf_bd w0_0,wf_bd w0_1,wf_bd w0_2,wf_bd w0_3,wf_bd w0_4,wf_bd w0_5,⟨wf_bd w0_7,wf_bd w0_8,wf_bd w0_9,wf_bd w0_10,wf_bd w0_11,wf_bd w0_12,wf_bd w0_13,wf_bd w0_14⟩,⟨wf_bd w0_16,wf_bd w0_17,wf_bd w0_18,wf_bd w0_19,wf_bd w0_20,wf_bd w0_21,wf_bd w0_22⟩⟩ (sized_mo hSZ2) (wf_bd w1) (wf_bd w3) (wf_bd w4) W).mono fun e W' ⟨he,hk⟩=>?_
 subst he
 exact ⟨_,rfl,law_post (tb:=4) Try.laidOut (by rw [Try.params6]; intro t ht; simp at ht; first | (rcases ht with rfl | rfl | rfl | rfl | rfl <;> exact ⟨by kernel_rfl,of_decide_eq_true (by kernel_rfl)⟩) | (rcases ht with rfl | rfl | rfl | rfl <;> exact ⟨by kernel_rfl,of_decide_eq_true (by kernel_rfl)⟩) | (rcases ht with rfl | rfl | rfl <;> exact ⟨by kernel_rfl,of_decide_eq_true (by kernel_rfl)⟩) | (rcases ht with rfl | rfl <;> exact ⟨by kernel_rfl,of_decide_eq_true (by kernel_rfl)⟩)) (by kernel_rfl) Try.underlying4 rfl rfl hW' hk⟩
theorem proved : Rows.MsgWholeSaid:=
 OpenClaim.holds_of_wide 6 Try.f6 rfl rfl rfl rfl rfl rfl rfl ⟨rfl,rfl,rfl,rfl,rfl⟩ rfl rfl rfl rfl rfl (by kernel_rfl) Try.func6 (by kernel_rfl)
  (of_decide_eq_true (by kernel_rfl)) (by unfold Func.isWrapper; first | (rw [if_pos (by decide +kernel)]; kernel_rfl) | (rw [if_neg (by decide +kernel)]; exact ⟨rfl,rfl⟩))
  (fun os started H enc _=>lifted os started H enc)
end whole
#print axioms whole.proved
end Go.Proofs.Ytkffgdfbdmgncaa
