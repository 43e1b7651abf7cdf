/- PilotEnds: where all letters come, every op ends with OK, also where one node is lost, or silent: the call returns true, for every input; no conditions. -/
import Derived.Test.YtcmpkkapkdlfhaaGreatEndsL
import Derived.Test.YtcmpkkapkdlfhaaGreatRows
import Derived.OpenShut
import Derived.ChangeMaps5
namespace Go.Proofs.YtcmpkkapkdlfhaaGreat
open Go.ChangeShapes Go.WideShapes Go.ChangeAt Go.RowKit Go.Deep
set_option maxRecDepth 100000
theorem Tryz.laidOut:laidOutB Tryz.prog=true:=v7
theorem Tryz.own:ownKnob Tryz.prog.godebug=none:=v7
theorem fc{a:Int}(h:(Lit.int .i64 a).wf=true):-9223372036854775808<=a∧a<=9223372036854775807:=bounds_i64 h
theorem Rz{l:bB}(h:∀a∈l,-9223372036854775808<=a∧a<=9223372036854775807)(j:Nat):-9223372036854775808<=l[j]?.getD 0∧l[j]?.getD 0<=9223372036854775807:=by
 cases e:l[j]? with
 |none=>simp
 |some v=>exact h v (aS e)
instance:Inhabited i1:=⟨⟨λ_=>0,λ_=>⟨#[]⟩,false⟩⟩
theorem CW{w:World}{A:aY}{n:Nat}(h:Fb w A n [0,0,0,0,0,2,0,0,0,0,0,0,1,0,0,0,0,0,0,0,0,2,0,0,0,0,0,0,0,2,2]):∃f,CV w A n f:=by
 refine choose_lt (α:=i1) (n:=n) (p:=λk a=>yQ a∧∃b o,A=some ⟨b,o,none⟩∧b<w.z∧∀j,j<31->w.cell? ⟨b,o+k*31+j,none⟩=a.cells[j]?) (λk hk=>?_);obtain⟨b,o,rfl,hb,hc⟩:=h k hk;obtain⟨_,h0,a0,rfl,w0⟩:=hc 0 0 rfl;obtain⟨_,h1,a1,rfl,w1⟩:=hc 1 0 rfl;obtain⟨_,h2,a2,rfl,w2⟩:=hc 2 0 rfl;obtain⟨_,h3,a3,rfl,w3⟩:=hc 3 0 rfl;obtain⟨_,h4,a4,rfl,w4⟩:=hc 4 0 rfl;obtain⟨_,h5,s5,rfl,q5⟩:=hc 5 2 rfl;obtain⟨_,h6,a6,rfl,w6⟩:=hc 6 0 rfl;obtain⟨_,h7,a7,rfl,w7⟩:=hc 7 0 rfl;obtain⟨_,h8,a8,rfl,w8⟩:=hc 8 0 rfl;obtain⟨_,h9,a9,rfl,w9⟩:=hc 9 0 rfl;obtain⟨_,Y8,Y9,rfl,Za⟩:=hc 10 0 rfl;obtain⟨_,Zb,Zc,rfl,Zd⟩:=hc 11 0 rfl;obtain⟨_,Ze,Zf,rfl⟩:=hc 12 1 rfl;obtain⟨_,Zg,Zh,rfl,Zi⟩:=hc 13 0 rfl;obtain⟨_,Zj,Zk,rfl,Zl⟩:=hc 14 0 rfl;obtain⟨_,Zm,Zn,rfl,Zo⟩:=hc 15 0 rfl;obtain⟨_,Zp,Zq,rfl,Zr⟩:=hc 16 0 rfl;obtain⟨_,Zs,Zt,rfl,Zu⟩:=hc 17 0 rfl;obtain⟨_,Zv,Zw,rfl,Zx⟩:=hc 18 0 rfl;obtain⟨_,Zy,Zz,rfl,ZA⟩:=hc 19 0 rfl;obtain⟨_,ZB,a20,rfl,ZC⟩:=hc 20 0 rfl;obtain⟨_,ZD,ZE,rfl,q21⟩:=hc 21 2 rfl;obtain⟨_,ZF,ZG,rfl,ZH⟩:=hc 22 0 rfl;obtain⟨_,ZI,ZJ,rfl,ZK⟩:=hc 23 0 rfl;obtain⟨_,ZL,a24,rfl,ZM⟩:=hc 24 0 rfl;obtain⟨_,ZN,ZO,rfl,ZP⟩:=hc 25 0 rfl;obtain⟨_,ZQ,ZR,rfl,ZS⟩:=hc 26 0 rfl;obtain⟨_,ZT,ZU,rfl,ZV⟩:=hc 27 0 rfl;obtain⟨_,ZW,a28,rfl,ZX⟩:=hc 28 0 rfl;obtain⟨_,ZY,ZZ,rfl,q29⟩:=hc 29 2 rfl;obtain⟨_,Z0,Z1,rfl,q30⟩:=hc 30 2 rfl;refine⟨⟨λj=>([a0,a1,a2,a3,a4,a6,a7,a8,a9,Y9,Zc,Zh,Zk,Zn,Zq,Zt,Zw,Zz,a20,ZG,ZJ,a24,ZO,ZR,ZU,a28]:bB)[j]?.getD 0,λj=>([s5,ZE,ZZ,Z1]:ct)[j]?.getD ⟨#[]⟩,Zf⟩,⟨Rz (dJ.2 ⟨fc w0,(dJ.2 ⟨fc w1,(dJ.2 ⟨fc w2,(dJ.2 ⟨fc w3,(dJ.2 ⟨fc w4,(dJ.2 ⟨fc w6,(dJ.2 ⟨fc w7,(dJ.2 ⟨fc w8,(dJ.2 ⟨fc w9,(dJ.2 ⟨fc Za,(dJ.2 ⟨fc Zd,(dJ.2 ⟨fc Zi,(dJ.2 ⟨fc Zl,(dJ.2 ⟨fc Zo,(dJ.2 ⟨fc Zr,(dJ.2 ⟨fc Zu,(dJ.2 ⟨fc Zx,(dJ.2 ⟨fc ZA,(dJ.2 ⟨fc ZC,(dJ.2 ⟨fc ZH,(dJ.2 ⟨fc ZK,(dJ.2 ⟨fc ZM,(dJ.2 ⟨fc ZP,(dJ.2 ⟨fc ZS,(dJ.2 ⟨fc ZV,(dJ.2 ⟨fc ZX,(λ_ h=>by cases h)⟩)⟩)⟩)⟩)⟩)⟩)⟩)⟩)⟩)⟩)⟩)⟩)⟩)⟩)⟩)⟩)⟩)⟩)⟩)⟩)⟩)⟩)⟩)⟩)⟩)⟩)⟩,b,o,rfl,hb,λj hj=>?_⟩
 match j,hj with
 |0,_=>exact h0
 |1,_=>exact h1
 |2,_=>exact h2
 |3,_=>exact h3
 |4,_=>exact h4
 |5,_=>exact h5
 |6,_=>exact h6
 |7,_=>exact h7
 |8,_=>exact h8
 |9,_=>exact h9
 |10,_=>exact Y8
 |11,_=>exact Zb
 |12,_=>exact Ze
 |13,_=>exact Zg
 |14,_=>exact Zj
 |15,_=>exact Zm
 |16,_=>exact Zp
 |17,_=>exact Zs
 |18,_=>exact Zv
 |19,_=>exact Zy
 |20,_=>exact ZB
 |21,_=>exact ZD
 |22,_=>exact ZF
 |23,_=>exact ZI
 |24,_=>exact ZL
 |25,_=>exact ZN
 |26,_=>exact ZQ
 |27,_=>exact ZT
 |28,_=>exact ZW
 |29,_=>exact ZY
 |30,_=>exact Z0
 |j+31,hj=>exact absurd hj yq
instance:Inhabited yO:=⟨⟨0⟩⟩
theorem KN{w:World}{A:aY}{n:Nat}(h:Fb w A n [0]):∃f,M0 w A n f:=by
 refine choose_lt (α:=yO) (n:=n) (p:=λk a=>Na a∧∃b o,A=some ⟨b,o,none⟩∧b<w.z∧∀j,j<1->w.cell? ⟨b,o+k*1+j,none⟩=a.cells[j]?) (λk hk=>?_);obtain⟨b,o,rfl,hb,hc⟩:=h k hk;obtain⟨_,h0,a0,rfl,w0⟩:=hc 0 0 rfl;refine⟨⟨a0⟩,⟨fc w0⟩,b,o,rfl,hb,λj hj=>?_⟩
 match j,hj with
 |0,_=>exact h0
namespace ends
theorem TL(os:Os)(started:os.Started)(H:Type)(enc:TypeId×Value->H) :
  ReturnsInHanded {} Tryz.checked os 3 .any (Rows.pilotEndsSpec.pre6 enc Tryz.prog Tryz.f3 Rows.pilotEndsRow.domain false) (Rows.pilotEndsSpec.post enc Tryz.prog Tryz.f3 false true false false):=by
 refine returnsInHanded_of_change (C:=Tryz.checked) Tryz.own started v7 Tryz.func3
  (ChangeSpec.witness6 (enc:=enc) (C:=Tryz.checked) false ⟨#[],#[.agg #[i6 0,i6 0],z7,z7,i6 0,.bool false],[]⟩ 8 v7 v7 v7 v7) ?_
 intro W v8 args ds gs before XS hW _ _;have Xd:∀(j:Nat) t v,Tryz.f3.params[j]?=some t->args[j]?=some v->Value.okWide Tryz.prog W .any v8 t v:=XS;have Z2:=hW;obtain⟨p,q,YR,hV,rfl,hfz,hnd⟩:=hW;have hA:DataW.TrodAll enc Tryz.prog W 0 (λ_=>true) true Tryz.f3.params.toList args.toList ds p:=YR;rw[Tryz.params3]at hA Xd;obtain⟨v0,vs0,d0,ds0,p0,q0,hargs,rfl,rfl,h0,r0⟩:=trodAll_cons hA;obtain⟨v1,vs1,d1,ds1,p1,q1,rfl,rfl,rfl,h1,r1⟩:=trodAll_cons r0;obtain⟨v2,vs2,d2,ds2,p2,q2,rfl,rfl,rfl,h2,r2⟩:=trodAll_cons r1;obtain⟨v3,vs3,d3,ds3,p3,q3,rfl,rfl,rfl,h3,r3⟩:=trodAll_cons r2;obtain⟨v4,vs4,d4,ds4,p4,q4,rfl,rfl,rfl,h4,r4⟩:=trodAll_cons r3;obtain⟨rfl,rfl,rfl⟩:=trodAll_nil r4;obtain rfl:args=#[v0,v1,v2,v3,v4]:=by cases args; simp_all
 obtain⟨Z3,rfl,Z4,YS⟩:=Nb Tryz.underlying23 (show yR Tryz.prog 4 23=some [0,0]by kernel_rfl) v7 (Xd 0 23 v0 rfl rfl) h0;obtain⟨_,Yv,a,rfl,Yw⟩:=YS 0 0 rfl;obtain⟨_,Yx,b,rfl,Yy⟩:=YS 1 0 rfl;obtain rfl:Z3=[i6 a,i6 b].toArray:=TM Z4 (λj hj=>by
  match j,hj with
  |0,_=>exact Yv
  |1,_=>exact Yx)
 obtain⟨A,n,cp,rfl,hl1,hm1,Z5⟩:=xE Tryz.underlying24 (show yR Tryz.prog 4 47=some [0,0,0,0,0,2,0,0,0,0,0,0,1,0,0,0,0,0,0,0,0,2,0,0,0,0,0,0,0,2,2]by kernel_rfl) (show Tryz.prog.cellsOf 47=31 by kernel_rfl) (by decide) (Xd 1 24 v1 rfl rfl) h1;obtain⟨Yz,Ye⟩:=CW Z5;obtain⟨B,nb,oc,rfl,hl2,Z6,Z7⟩:=xE Tryz.underlying25 (show yR Tryz.prog 4 3=some [0]by kernel_rfl) (show Tryz.prog.cellsOf 3=1 by kernel_rfl) (by decide) (Xd 2 25 v2 rfl rfl) h2;have Z8:nb<=9223372036854775807:=by unfold maxLen at Z6; omega
 obtain⟨YA,Yf⟩:=KN Z7;obtain⟨lost,rfl,_,_,w3⟩:=open_int Tryz.underlying3 (Xd 3 3 v3 rfl rfl) h3;obtain⟨AQ,rfl,_⟩:=open_bool Tryz.underlying4 (Xd 4 4 v4 rfl rfl) h4;clear YR XS;refine(MZ a b A n cp Yz B nb oc YA lost AQ (fc Yw) (fc Yy) (fc w3) Z8 W Ye Yf).mono λe W' ⟨he,hk⟩=>?_;subst he;exact⟨_,rfl,Nc (tb:=4) Tryz.laidOut (by rw[Tryz.params3]; intro t ht; simp at ht; first|(rcases ht with rfl|rfl|rfl|rfl|rfl<;>exact⟨by kernel_rfl,gV v7⟩)|(rcases ht with rfl|rfl|rfl|rfl<;>exact⟨by kernel_rfl,gV v7⟩)|(rcases ht with rfl|rfl|rfl<;>exact⟨by kernel_rfl,gV v7⟩)|(rcases ht with rfl|rfl<;>exact⟨by kernel_rfl,gV v7⟩)) v7 Tryz.underlying4 rfl rfl Z2 hk⟩
theorem proved:Rows.PilotEndsSaid:=
 OpenClaim.holds_of_wide 3 Tryz.f3 rfl rfl rfl rfl rfl rfl rfl ⟨rfl,rfl,rfl,rfl,rfl⟩ rfl rfl rfl rfl rfl v7 Tryz.func3 v7
  (gV v7) (by unfold Func.isWrapper; first|(rw[aA (by decide +kernel)]; kernel_rfl)|(rw[ay (by decide +kernel)]; exact⟨rfl,rfl⟩))
  (λos started H enc _=>TL os started H enc)
end ends
#print axioms ends.proved
end Go.Proofs.YtcmpkkapkdlfhaaGreat
