/- PilotFenced: a pilot that does not know that another one has taken its stripe over reads what is so, and writes by a lease of its own: the call returns true, for every input; no conditions. -/
import Derived.Test.YtcmpkkapkdlfhaaGreatFenced17
import Derived.Test.YtcmpkkapkdlfhaaGreatRows
import Derived.OpenShut
import Derived.ChangeMaps5
namespace Go.Proofs.YtcmpkkapkdlfhaaGreat
open Go.ChangeShapes Go.WideShapes Go.ChangeAt Go.RowKit Go.Deep
set_option maxRecDepth 100000
theorem Tryz.laidOut:laidOutB Tryz.prog = true:=by kernel_rfl
theorem Tryz.own:ownKnob Tryz.prog.godebug = none:=by kernel_rfl
theorem wf_bd {a:Int} (h:(Lit.int .i64 a).wf = true):-9223372036854775808 ≤ a ∧ a ≤ 9223372036854775807:=bounds_i64 h
namespace fenced
theorem lifted (os:Os) (started:os.Started) (H:Type) (enc:TypeId × Value → H) :
  ReturnsInHanded {} Tryz.checked os 5 .any (Rows.pilotFencedSpec.pre6 enc Tryz.prog Tryz.f5 Rows.pilotFencedRow.domain false) (Rows.pilotFencedSpec.post enc Tryz.prog Tryz.f5 false true false false):=by
 refine returnsInHanded_of_change (C:=Tryz.checked) Tryz.own started (by kernel_rfl) Tryz.func5
  (ChangeSpec.witness6 (enc:=enc) (C:=Tryz.checked) false ⟨#[],#[.agg #[i6 0,i6 0],i6 0,sT ⟨#[]⟩,sT ⟨#[]⟩],[]⟩ 8 (by kernel_rfl) (by kernel_rfl) (by kernel_rfl) (by kernel_rfl)) ?_
 intro W base args ds gs before hval0 hW _ _
 have hval:∀ (j:Nat) t v,Tryz.f5.params[j]? = some t → args[j]? = some v → Value.okWide Tryz.prog W .any base t v:=hval0
 have hW':=hW
 obtain ⟨p,q,hA0,hV,rfl,hfz,hnd⟩:=hW
 have hA:DataW.TrodAll enc Tryz.prog W 0 (fun _=>true) true Tryz.f5.params.toList args.toList ds p:=hA0
 rw [Tryz.params5] at hA hval
 obtain ⟨v0,vs0,d0,ds0,p0,q0,hargs,rfl,rfl,h0,r0⟩:=trodAll_cons hA
 obtain ⟨v1,vs1,d1,ds1,p1,q1,rfl,rfl,rfl,h1,r1⟩:=trodAll_cons r0
 obtain ⟨v2,vs2,d2,ds2,p2,q2,rfl,rfl,rfl,h2,r2⟩:=trodAll_cons r1
 obtain ⟨v3,vs3,d3,ds3,p3,q3,rfl,rfl,rfl,h3,r3⟩:=trodAll_cons r2
 obtain ⟨rfl,rfl,rfl⟩:=trodAll_nil r3
 obtain rfl:args = #[v0,v1,v2,v3]:=by cases args; simp_all
 obtain ⟨cs0,rfl,hz0,hc0⟩:=open_agg Tryz.underlying23 (show flat Tryz.prog 4 23 = some [0,0] by kernel_rfl) (by kernel_rfl) (hval 0 23 v0 rfl rfl) h0
 obtain ⟨_,e0_0,a,rfl,w0_0⟩:=hc0 0 0 rfl
 obtain ⟨_,e0_1,b,rfl,w0_1⟩:=hc0 1 0 rfl
 obtain rfl:cs0 = [i6 a,i6 b].toArray:=agg_eq hz0 (fun j hj=>by
  match j,hj with
  | 0,_=>exact e0_0
  | 1,_=>exact e0_1)
 obtain ⟨at_,rfl,_,_,w1⟩:=open_int Tryz.underlying3 (hval 1 3 v1 rfl rfl) h1
 obtain ⟨s1,rfl,eS2,_,w2⟩:=Go.ChangeMaps.open_string Tryz.underlying9 (hval 2 9 v2 rfl rfl) h2
 obtain ⟨s2,rfl,eS3,_,w3⟩:=Go.ChangeMaps.open_string Tryz.underlying9 (hval 3 9 v3 rfl rfl) h3
 clear hA0 hval0
 refine (fenced_any a b at_ s1 s2 (wf_bd w0_0) (wf_bd w0_1) (wf_bd w1) W).mono fun e W' ⟨he,hk⟩=>?_
 subst he
 exact ⟨_,rfl,law_post (tb:=4) Tryz.laidOut (by rw [Tryz.params5]; intro t ht; simp at ht; first | (rcases ht with rfl | rfl | rfl | rfl <;> exact ⟨by kernel_rfl,of_decide_eq_true (by kernel_rfl)⟩) | (rcases ht with rfl | rfl | rfl <;> exact ⟨by kernel_rfl,of_decide_eq_true (by kernel_rfl)⟩) | (rcases ht with rfl | rfl <;> exact ⟨by kernel_rfl,of_decide_eq_true (by kernel_rfl)⟩)) (by kernel_rfl) Tryz.underlying4 rfl rfl hW' hk⟩
theorem proved:Rows.PilotFencedSaid:=
 OpenClaim.holds_of_wide 5 Tryz.f5 rfl rfl rfl rfl rfl rfl rfl ⟨rfl,rfl,rfl,rfl,rfl⟩ rfl rfl rfl rfl rfl (by kernel_rfl) Tryz.func5 (by kernel_rfl)
  (of_decide_eq_true (by kernel_rfl)) (by unfold Func.isWrapper; first | (rw [if_pos (by decide +kernel)]; kernel_rfl) | (rw [if_neg (by decide +kernel)]; exact ⟨rfl,rfl⟩))
  (fun os started H enc _=>lifted os started H enc)
end fenced
#print axioms fenced.proved
end Go.Proofs.YtcmpkkapkdlfhaaGreat
