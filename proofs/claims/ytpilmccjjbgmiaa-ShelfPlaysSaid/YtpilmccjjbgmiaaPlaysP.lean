/- ShelfPlays: a shelf answers every script of its calls as the document does: the call returns true, for every input; no conditions. -/
import Derived.Test.YtpilmccjjbgmiaaRows
import Derived.Test.YtpilmccjjbgmiaaOpen
import Derived.Test.YtpilmccjjbgmiaaPost
import Derived.OpenShut
import Derived.ChangeMaps5
import Derived.Test.YtpilmccjjbgmiaaPlays
namespace Go.Proofs.Ytpilmccjjbgmiaa
open Go.ChangeShapes Go.WideShapes Go.ChangeAt Go.RowKit Go.Deep
theorem Try.laidOut:laidOutB Try.prog = true:=by kernel_rfl
theorem Try.own:ownKnob Try.prog.godebug = none:=by kernel_rfl
theorem wf_bd {a:Int} (h:(Lit.int .i64 a).wf = true):-9223372036854775808 ≤ a ∧ a ≤ 9223372036854775807:=bounds_i64 h
instance:Inhabited Num1:=⟨⟨0⟩⟩
instance:Inhabited Act8:=⟨⟨0,0,0,⟨0,0,0,0,0,0,0,⟨#[]⟩,⟨#[]⟩⟩,⟨#[]⟩,none,0,0⟩⟩
theorem nums_of4 {w:World} {A:Option Addr} {n:Nat} (h:∀ k,k < n → ∃ b o a,A = some ⟨b,o,none⟩ ∧ b < w.heap.size ∧ w.cell? ⟨b,o + k,none⟩ = some (.int .i64 a) ∧ (Lit.int .i64 a).wf = true):∃ f,NumsAt w A n f:=by
 refine choose_lt (α:=Num1) (n:=n) (p:=fun k x=>Num1Ok x ∧ ∃ b o,A = some ⟨b,o,none⟩ ∧ b < w.heap.size ∧ ∀ j,j < 1 → w.cell? ⟨b,o + k * 1 + j,none⟩ = x.cells[j]?) (fun k hk=>?_)
 obtain ⟨b,o,a,h1,h2,h3,h4⟩:=h k hk
 refine ⟨⟨a⟩,⟨wf_bd h4⟩,b,o,h1,h2,fun j hj=>?_⟩
 obtain rfl:j = 0:=by omega
 rw [Nat.mul_one]
 exact h3
theorem acts8K_of {w:World} {A:Option Addr} {n:Nat} (h:FlatAt w A n [0,0,0,0,0,0,0,0,0,0,2,2,2,4]):∃ f,Acts8At w A n f ∧ ∀ k,k < n → ∃ kf,NumsAt w (f k).ka (f k).kn kf:=by
 suffices H:∃ f:Nat → Act8,∀ k,k < n → ((Act8Ok (f k) ∧ ∃ b o,A = some ⟨b,o,none⟩ ∧ b < w.heap.size ∧ ∀ j,j < 14 → w.cell? ⟨b,o + k * 14 + j,none⟩ = (f k).cells[j]?) ∧ ∃ kf,NumsAt w (f k).ka (f k).kn kf) by
  obtain ⟨f,hf⟩:=H
  exact ⟨f,fun k hk=>(hf k hk).1,fun k hk=>(hf k hk).2⟩
 refine choose_lt (α:=Act8) (n:=n) (p:=fun k a=>(Act8Ok a ∧ ∃ b o,A = some ⟨b,o,none⟩ ∧ b < w.heap.size ∧ ∀ j,j < 14 → w.cell? ⟨b,o + k * 14 + j,none⟩ = a.cells[j]?) ∧ ∃ kf,NumsAt w a.ka a.kn kf) (fun k hk=>?_)
 obtain ⟨b,o,rfl,hb,hc⟩:=h k hk
 obtain ⟨_,h0,a0,rfl,w0⟩:=hc 0 0 rfl
 obtain ⟨_,h1,a1,rfl,w1⟩:=hc 1 0 rfl
 obtain ⟨_,h2,a2,rfl,w2⟩:=hc 2 0 rfl
 obtain ⟨_,h3,a3,rfl,w3⟩:=hc 3 0 rfl
 obtain ⟨_,h4,a4,rfl,w4⟩:=hc 4 0 rfl
 obtain ⟨_,h5,a5,rfl,w5⟩:=hc 5 0 rfl
 obtain ⟨_,h6,a6,rfl,w6⟩:=hc 6 0 rfl
 obtain ⟨_,h7,a7,rfl,w7⟩:=hc 7 0 rfl
 obtain ⟨_,h8,a8,rfl,w8⟩:=hc 8 0 rfl
 obtain ⟨_,h9,a9,rfl,w9⟩:=hc 9 0 rfl
 obtain ⟨_,h10,s10,rfl,q10⟩:=hc 10 2 rfl
 obtain ⟨_,h11,s11,rfl,q11⟩:=hc 11 2 rfl
 obtain ⟨_,h12,s12,rfl,q12⟩:=hc 12 2 rfl
 obtain ⟨_,h13,l13,m13,c13,rfl,u13⟩:=hc 13 4 rfl
 refine ⟨⟨a0,a1,a2,⟨a3,a4,a5,a6,a7,a8,a9,s10,s11⟩,s12,l13,m13,c13⟩,⟨⟨wf_bd w0,wf_bd w1,wf_bd w2,⟨wf_bd w3,wf_bd w4,wf_bd w5,wf_bd w6,wf_bd w7,wf_bd w8,wf_bd w9⟩⟩,b,o,rfl,hb,fun j hj=>?_⟩,nums_of4 u13⟩
 match j,hj with
 | 0,_=>exact h0
 | 1,_=>exact h1
 | 2,_=>exact h2
 | 3,_=>exact h3
 | 4,_=>exact h4
 | 5,_=>exact h5
 | 6,_=>exact h6
 | 7,_=>exact h7
 | 8,_=>exact h8
 | 9,_=>exact h9
 | 10,_=>exact h10
 | 11,_=>exact h11
 | 12,_=>exact h12
 | 13,_=>exact h13
namespace plays
set_option maxRecDepth 100000 in
theorem lifted (os:Os) (started:os.Started) (H:Type) (enc:TypeId × Value → H) :
  ReturnsInHanded {} Try.checked os 10 .any (Rows.shelfPlaysSpec.pre6 enc Try.prog Try.f10 Rows.shelfPlaysRow.domain false) (Rows.shelfPlaysSpec.post enc Try.prog Try.f10 false true false false):=by
 refine returnsInHanded_of_change (C:=Try.checked) Try.own started (by kernel_rfl) Try.func10
  (ChangeSpec.witness6 (enc:=enc) (C:=Try.checked) false ⟨#[],#[.int .i64 0,.int .i64 0,.slice none 0 0],[]⟩ 8 (by kernel_rfl) (by kernel_rfl) (by kernel_rfl) (by kernel_rfl)) ?_
 intro W base args ds gs before hval0 hW _ _
 have hval:∀ (j:Nat) t v,Try.f10.params[j]? = some t → args[j]? = some v → Value.okWide Try.prog W .any base t v:=hval0
 have hW':=hW
 obtain ⟨p,q,hA0,hV,rfl,hfz,hnd⟩:=hW
 have hA:DataW.TrodAll enc Try.prog W 0 (fun _=>true) true Try.f10.params.toList args.toList ds p:=hA0
 rw [Try.params10] at hA hval
 obtain ⟨v0,vs0,d0,ds0,p0,q0,hargs,rfl,rfl,h0,r0⟩:=trodAll_cons hA
 obtain ⟨v1,vs1,d1,ds1,p1,q1,rfl,rfl,rfl,h1,r1⟩:=trodAll_cons r0
 obtain ⟨v2,vs2,d2,ds2,p2,q2,rfl,rfl,rfl,h2,r2⟩:=trodAll_cons r1
 obtain ⟨rfl,rfl,rfl⟩:=trodAll_nil r2
 obtain rfl:args = #[v0,v1,v2]:=by cases args; simp_all
 obtain ⟨se,rfl,_,_,w0⟩:=open_int Try.underlying3 (hval 0 3 v0 rfl rfl) h0
 obtain ⟨st,rfl,_,_,w1⟩:=open_int Try.underlying3 (hval 1 3 v1 rfl rfl) h1
 obtain ⟨A,n,cp,rfl,hl2,hm2,hf2⟩:=open_flat Try.underlying60 (show flat Try.prog 4 68 = some [0,0,0,0,0,0,0,0,0,0,2,2,2,4] by kernel_rfl) (show Try.prog.cellsOf 68 = 14 by kernel_rfl) (by decide) (hval 2 60 v2 rfl rfl) h2
 obtain ⟨acts,hacts,hkeep⟩:=acts8K_of hf2
 clear hA0 hval0
 refine (plays_any se st A n cp acts (wf_bd w0) W hacts hkeep).mono fun e W' ⟨he,hk⟩=>?_
 subst he
 exact ⟨_,rfl,law_post (tb:=4) Try.laidOut (by rw [Try.params10]; intro t ht; simp at ht; first | (rcases ht with rfl | rfl | rfl <;> exact ⟨by kernel_rfl,of_decide_eq_true (by kernel_rfl)⟩) | (rcases ht with rfl | rfl <;> exact ⟨by kernel_rfl,of_decide_eq_true (by kernel_rfl)⟩)) (by kernel_rfl) Try.underlying4 rfl rfl hW' hk⟩
theorem proved:Rows.ShelfPlaysSaid:=
 OpenClaim.holds_of_wide 10 Try.f10 rfl rfl rfl rfl rfl rfl rfl ⟨rfl,rfl,rfl,rfl,rfl⟩ rfl rfl rfl rfl rfl (by kernel_rfl) Try.func10 (by kernel_rfl)
  (of_decide_eq_true (by kernel_rfl)) (by unfold Func.isWrapper; first | (rw [if_pos (by decide +kernel)]; kernel_rfl) | (rw [if_neg (by decide +kernel)]; exact ⟨rfl,rfl⟩))
  (fun os started H enc _=>lifted os started H enc)
end plays
#print axioms plays.proved
end Go.Proofs.Ytpilmccjjbgmiaa
