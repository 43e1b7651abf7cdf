/- PilotTwo: two pilots, one behind the other, read what was written last; all stripes are nought: the call returns true, for every input; no conditions. -/
import Derived.Test.YtcmpkkapkdlfhaaGreatTwo17L
import Derived.Test.YtcmpkkapkdlfhaaGreatRows
import Derived.OpenShut
import Derived.ChangeMaps5
namespace Go.Proofs.YtcmpkkapkdlfhaaGreat
open Go.ChangeShapes Go.WideShapes Go.ChangeAt Go.RowKit Go.Deep
set_option maxRecDepth 100000
theorem Tryz.laidOut:laidOutB Tryz.prog=true:=by kernel_rfl
theorem Tryz.own:ownKnob Tryz.prog.godebug=none:=by kernel_rfl
theorem wf_bd{a:Int}(h:(Lit.int .i64 a).wf=true):-9223372036854775808<=a∧a<=9223372036854775807:=bounds_i64 h
theorem getD_bd{l:List Int}(h:∀a∈l,-9223372036854775808<=a∧a<=9223372036854775807)(j:Nat):-9223372036854775808<=l[j]?.getD 0∧l[j]?.getD 0<=9223372036854775807:=by
 cases e:l[j]? with
 |none=>simp
 |some v=>exact h v (List.mem_of_getElem? e)
instance:Inhabited Act17:=⟨⟨fun _=>0,fun _=>⟨#[]⟩,false⟩⟩
theorem acts17At_of{w:World}{A:Option Addr}{n:Nat}(h:FlatAt w A n [0,0,0,0,0,2,0,0,0,0,0,0,1,0,0,0,0,0,0,0,0,2,0,0,0,0,0,0,0,2,2]):∃f,Acts17At w A n f:=by
 refine choose_lt (α:=Act17) (n:=n) (p:=fun k a=>Act17Ok a∧∃b o,A=some ⟨b,o,none⟩∧b<w.heap.size∧∀j,j<31->w.cell? ⟨b,o+k*31+j,none⟩=a.cells[j]?) (fun k hk=>?_)
 obtain⟨b,o,rfl,hb,hc⟩:=h k hk
 obtain⟨_,h0,a0,rfl,w0⟩:=hc 0 0 rfl
 obtain⟨_,h1,a1,rfl,w1⟩:=hc 1 0 rfl
 obtain⟨_,h2,a2,rfl,w2⟩:=hc 2 0 rfl
 obtain⟨_,h3,a3,rfl,w3⟩:=hc 3 0 rfl
 obtain⟨_,h4,a4,rfl,w4⟩:=hc 4 0 rfl
 obtain⟨_,h5,s5,rfl,q5⟩:=hc 5 2 rfl
 obtain⟨_,h6,a6,rfl,w6⟩:=hc 6 0 rfl
 obtain⟨_,h7,a7,rfl,w7⟩:=hc 7 0 rfl
 obtain⟨_,h8,a8,rfl,w8⟩:=hc 8 0 rfl
 obtain⟨_,h9,a9,rfl,w9⟩:=hc 9 0 rfl
 obtain⟨_,h10,a10,rfl,w10⟩:=hc 10 0 rfl
 obtain⟨_,h11,a11,rfl,w11⟩:=hc 11 0 rfl
 obtain⟨_,h12,b12,rfl⟩:=hc 12 1 rfl
 obtain⟨_,h13,a13,rfl,w13⟩:=hc 13 0 rfl
 obtain⟨_,h14,a14,rfl,w14⟩:=hc 14 0 rfl
 obtain⟨_,h15,a15,rfl,w15⟩:=hc 15 0 rfl
 obtain⟨_,h16,a16,rfl,w16⟩:=hc 16 0 rfl
 obtain⟨_,h17,a17,rfl,w17⟩:=hc 17 0 rfl
 obtain⟨_,h18,a18,rfl,w18⟩:=hc 18 0 rfl
 obtain⟨_,h19,a19,rfl,w19⟩:=hc 19 0 rfl
 obtain⟨_,h20,a20,rfl,w20⟩:=hc 20 0 rfl
 obtain⟨_,h21,s21,rfl,q21⟩:=hc 21 2 rfl
 obtain⟨_,h22,a22,rfl,w22⟩:=hc 22 0 rfl
 obtain⟨_,h23,a23,rfl,w23⟩:=hc 23 0 rfl
 obtain⟨_,h24,a24,rfl,w24⟩:=hc 24 0 rfl
 obtain⟨_,h25,a25,rfl,w25⟩:=hc 25 0 rfl
 obtain⟨_,h26,a26,rfl,w26⟩:=hc 26 0 rfl
 obtain⟨_,h27,a27,rfl,w27⟩:=hc 27 0 rfl
 obtain⟨_,h28,a28,rfl,w28⟩:=hc 28 0 rfl
 obtain⟨_,h29,s29,rfl,q29⟩:=hc 29 2 rfl
 obtain⟨_,h30,s30,rfl,q30⟩:=hc 30 2 rfl
 refine⟨⟨fun j=>([a0,a1,a2,a3,a4,a6,a7,a8,a9,a10,a11,a13,a14,a15,a16,a17,a18,a19,a20,a22,a23,a24,a25,a26,a27,a28]:List Int)[j]?.getD 0,fun j=>([s5,s21,s29,s30]:List ByteArray)[j]?.getD ⟨#[]⟩,b12⟩,⟨getD_bd (List.forall_mem_cons.2 ⟨wf_bd w0,(List.forall_mem_cons.2 ⟨wf_bd w1,(List.forall_mem_cons.2 ⟨wf_bd w2,(List.forall_mem_cons.2 ⟨wf_bd w3,(List.forall_mem_cons.2 ⟨wf_bd w4,(List.forall_mem_cons.2 ⟨wf_bd w6,(List.forall_mem_cons.2 ⟨wf_bd w7,(List.forall_mem_cons.2 ⟨wf_bd w8,(List.forall_mem_cons.2 ⟨wf_bd w9,(List.forall_mem_cons.2 ⟨wf_bd w10,(List.forall_mem_cons.2 ⟨wf_bd w11,(List.forall_mem_cons.2 ⟨wf_bd w13,(List.forall_mem_cons.2 ⟨wf_bd w14,(List.forall_mem_cons.2 ⟨wf_bd w15,(List.forall_mem_cons.2 ⟨wf_bd w16,(List.forall_mem_cons.2 ⟨wf_bd w17,(List.forall_mem_cons.2 ⟨wf_bd w18,(List.forall_mem_cons.2 ⟨wf_bd w19,(List.forall_mem_cons.2 ⟨wf_bd w20,(List.forall_mem_cons.2 ⟨wf_bd w22,(List.forall_mem_cons.2 ⟨wf_bd w23,(List.forall_mem_cons.2 ⟨wf_bd w24,(List.forall_mem_cons.2 ⟨wf_bd w25,(List.forall_mem_cons.2 ⟨wf_bd w26,(List.forall_mem_cons.2 ⟨wf_bd w27,(List.forall_mem_cons.2 ⟨wf_bd w28,(fun _ h=>by cases h)⟩)⟩)⟩)⟩)⟩)⟩)⟩)⟩)⟩)⟩)⟩)⟩)⟩)⟩)⟩)⟩)⟩)⟩)⟩)⟩)⟩)⟩)⟩)⟩)⟩)⟩)⟩,b,o,rfl,hb,fun j hj=>?_⟩
 match j,hj with
 |0,_=>exact h0
 |1,_=>exact h1
 |2,_=>exact h2
 |3,_=>exact h3
 |4,_=>exact h4
 |5,_=>exact h5
 |6,_=>exact h6
 |7,_=>exact h7
 |8,_=>exact h8
 |9,_=>exact h9
 |10,_=>exact h10
 |11,_=>exact h11
 |12,_=>exact h12
 |13,_=>exact h13
 |14,_=>exact h14
 |15,_=>exact h15
 |16,_=>exact h16
 |17,_=>exact h17
 |18,_=>exact h18
 |19,_=>exact h19
 |20,_=>exact h20
 |21,_=>exact h21
 |22,_=>exact h22
 |23,_=>exact h23
 |24,_=>exact h24
 |25,_=>exact h25
 |26,_=>exact h26
 |27,_=>exact h27
 |28,_=>exact h28
 |29,_=>exact h29
 |30,_=>exact h30
 |j+31,hj=>exact absurd hj (by omega)
namespace two
theorem lifted(os:Os)(started:os.Started)(H:Type)(enc:TypeId×Value->H) :
  ReturnsInHanded {} Tryz.checked os 4 .any (Rows.pilotTwoSpec.pre6 enc Tryz.prog Tryz.f4 Rows.pilotTwoRow.domain false) (Rows.pilotTwoSpec.post enc Tryz.prog Tryz.f4 false true false false):=by
 refine returnsInHanded_of_change (C:=Tryz.checked) Tryz.own started (by kernel_rfl) Tryz.func4
  (ChangeSpec.witness6 (enc:=enc) (C:=Tryz.checked) false ⟨#[],#[.agg #[i6 0,i6 0],.slice none 0 0],[]⟩ 8 (by kernel_rfl) (by kernel_rfl) (by kernel_rfl) (by kernel_rfl)) ?_
 intro W base args ds gs before hval0 hW _ _
 have hval:∀(j:Nat) t v,Tryz.f4.params[j]?=some t->args[j]?=some v->Value.okWide Tryz.prog W .any base t v:=hval0
 have hW':=hW
 obtain⟨p,q,hA0,hV,rfl,hfz,hnd⟩:=hW
 have hA:DataW.TrodAll enc Tryz.prog W 0 (fun _=>true) true Tryz.f4.params.toList args.toList ds p:=hA0
 rw[Tryz.params4]at hA hval
 obtain⟨v0,vs0,d0,ds0,p0,q0,hargs,rfl,rfl,h0,r0⟩:=trodAll_cons hA
 obtain⟨v1,vs1,d1,ds1,p1,q1,rfl,rfl,rfl,h1,r1⟩:=trodAll_cons r0
 obtain⟨rfl,rfl,rfl⟩:=trodAll_nil r1
 obtain rfl:args=#[v0,v1]:=by cases args; simp_all
 obtain⟨cs0,rfl,hz0,hc0⟩:=open_agg Tryz.underlying23 (show flat Tryz.prog 4 23=some [0,0]by kernel_rfl) (by kernel_rfl) (hval 0 23 v0 rfl rfl) h0
 obtain⟨_,e0_0,a,rfl,w0_0⟩:=hc0 0 0 rfl
 obtain⟨_,e0_1,b,rfl,w0_1⟩:=hc0 1 0 rfl
 obtain rfl:cs0=[i6 a,i6 b].toArray:=agg_eq hz0 (fun j hj=>by
  match j,hj with
  |0,_=>exact e0_0
  |1,_=>exact e0_1)
 obtain⟨A,n,cp,rfl,hl1,hm1,hf1⟩:=open_flat Tryz.underlying24 (show flat Tryz.prog 4 47=some [0,0,0,0,0,2,0,0,0,0,0,0,1,0,0,0,0,0,0,0,0,2,0,0,0,0,0,0,0,2,2]by kernel_rfl) (show Tryz.prog.cellsOf 47=31 by kernel_rfl) (by decide) (hval 1 24 v1 rfl rfl) h1
 obtain⟨acts,hacts⟩:=acts17At_of hf1
 clear hA0 hval0
 refine(two_any a b A n cp acts (wf_bd w0_0) (wf_bd w0_1) W hacts).mono fun e W' ⟨he,hk⟩=>?_
 subst he
 exact⟨_,rfl,law_post (tb:=4) Tryz.laidOut (by rw[Tryz.params4]; intro t ht; simp at ht; first|(rcases ht with rfl|rfl<;>exact⟨by kernel_rfl,of_decide_eq_true (by kernel_rfl)⟩)) (by kernel_rfl) Tryz.underlying4 rfl rfl hW' hk⟩
theorem proved:Rows.PilotTwoSaid:=
 OpenClaim.holds_of_wide 4 Tryz.f4 rfl rfl rfl rfl rfl rfl rfl ⟨rfl,rfl,rfl,rfl,rfl⟩ rfl rfl rfl rfl rfl (by kernel_rfl) Tryz.func4 (by kernel_rfl)
  (of_decide_eq_true (by kernel_rfl)) (by unfold Func.isWrapper; first|(rw[if_pos (by decide +kernel)]; kernel_rfl)|(rw[if_neg (by decide +kernel)]; exact⟨rfl,rfl⟩))
  (fun os started H enc _=>lifted os started H enc)
end two
#print axioms two.proved
end Go.Proofs.YtcmpkkapkdlfhaaGreat
