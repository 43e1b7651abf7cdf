/- PilotEnds: where all letters come, every op ends with OK, also where one node is lost, or silent: the call returns true, for every input; no conditions. -/
import Derived.Test.YtcmpkkapkdlfhaaGreatEndsL
import Derived.Test.YtcmpkkapkdlfhaaGreatRows
import Derived.OpenShut
import Derived.ChangeMaps5
namespace Go.Proofs.YtcmpkkapkdlfhaaGreat
open Go.ChangeShapes Go.WideShapes Go.ChangeAt Go.RowKit Go.Deep
set_option maxRecDepth 100000
theorem Tryz.laidOut:laidOutB Tryz.prog=true:=v7
theorem Tryz.own:ownKnob Tryz.prog.godebug=none:=v7
theorem fc{a:Int}(h:(Lit.int .i64 a).wf=true):-9223372036854775808<=a∧a<=9223372036854775807:=bounds_i64 h
theorem RA{l:bB}(h:∀a∈l,-9223372036854775808<=a∧a<=9223372036854775807)(j:Nat):-9223372036854775808<=l[j]?.getD 0∧l[j]?.getD 0<=9223372036854775807:=by
 cases e:l[j]? with
 |none=>simp
 |some v=>exact h v (aS e)
instance:Inhabited i1:=⟨⟨λ_=>0,λ_=>⟨#[]⟩,false⟩⟩
theorem CW{w:World}{A:aY}{n:Nat}(h:Fb w A n [0,0,0,0,0,2,0,0,0,0,0,0,1,0,0,0,0,0,0,0,0,2,0,0,0,0,0,0,0,2,2]):∃f,CV w A n f:=by
 refine choose_lt (α:=i1) (n:=n) (p:=λk a=>yQ a∧∃b o,A=some ⟨b,o,none⟩∧b<w.z∧∀j,j<31->w.cell? ⟨b,o+k*31+j,none⟩=a.cells[j]?) (λk hk=>?_);obtain⟨b,o,rfl,hb,hc⟩:=h k hk;obtain⟨_,h0,a0,rfl,w0⟩:=hc 0 0 rfl;obtain⟨_,h1,a1,rfl,w1⟩:=hc 1 0 rfl;obtain⟨_,h2,a2,rfl,w2⟩:=hc 2 0 rfl;obtain⟨_,h3,a3,rfl,w3⟩:=hc 3 0 rfl;obtain⟨_,h4,a4,rfl,w4⟩:=hc 4 0 rfl;obtain⟨_,h5,s5,rfl,q5⟩:=hc 5 2 rfl;obtain⟨_,h6,a6,rfl,w6⟩:=hc 6 0 rfl;obtain⟨_,h7,a7,rfl,w7⟩:=hc 7 0 rfl;obtain⟨_,h8,a8,rfl,w8⟩:=hc 8 0 rfl;obtain⟨_,h9,a9,rfl,w9⟩:=hc 9 0 rfl;obtain⟨_,Y9,Za,rfl,Zb⟩:=hc 10 0 rfl;obtain⟨_,Zc,Zd,rfl,Ze⟩:=hc 11 0 rfl;obtain⟨_,Zf,Zg,rfl⟩:=hc 12 1 rfl;obtain⟨_,Zh,Zi,rfl,Zj⟩:=hc 13 0 rfl;obtain⟨_,Zk,Zl,rfl,Zm⟩:=hc 14 0 rfl;obtain⟨_,Zn,Zo,rfl,Zp⟩:=hc 15 0 rfl;obtain⟨_,Zq,Zr,rfl,Zs⟩:=hc 16 0 rfl;obtain⟨_,Zt,Zu,rfl,Zv⟩:=hc 17 0 rfl;obtain⟨_,Zw,Zx,rfl,Zy⟩:=hc 18 0 rfl;obtain⟨_,Zz,ZA,rfl,ZB⟩:=hc 19 0 rfl;obtain⟨_,ZC,a20,rfl,ZD⟩:=hc 20 0 rfl;obtain⟨_,ZE,ZF,rfl,q21⟩:=hc 21 2 rfl;obtain⟨_,ZG,ZH,rfl,ZI⟩:=hc 22 0 rfl;obtain⟨_,ZJ,ZK,rfl,ZL⟩:=hc 23 0 rfl;obtain⟨_,ZM,a24,rfl,ZN⟩:=hc 24 0 rfl;obtain⟨_,ZO,ZP,rfl,ZQ⟩:=hc 25 0 rfl;obtain⟨_,ZR,ZS,rfl,ZT⟩:=hc 26 0 rfl;obtain⟨_,ZU,ZV,rfl,ZW⟩:=hc 27 0 rfl;obtain⟨_,ZX,a28,rfl,ZY⟩:=hc 28 0 rfl;obtain⟨_,ZZ,Z0,rfl,q29⟩:=hc 29 2 rfl;obtain⟨_,Z1,Z2,rfl,q30⟩:=hc 30 2 rfl;refine⟨⟨λj=>([a0,a1,a2,a3,a4,a6,a7,a8,a9,Za,Zd,Zi,Zl,Zo,Zr,Zu,Zx,ZA,a20,ZH,ZK,a24,ZP,ZS,ZV,a28]:bB)[j]?.getD 0,λj=>([s5,ZF,Z0,Z2]:ct)[j]?.getD ⟨#[]⟩,Zg⟩,⟨RA (dJ.2 ⟨fc w0,(dJ.2 ⟨fc w1,(dJ.2 ⟨fc w2,(dJ.2 ⟨fc w3,(dJ.2 ⟨fc w4,(dJ.2 ⟨fc w6,(dJ.2 ⟨fc w7,(dJ.2 ⟨fc w8,(dJ.2 ⟨fc w9,(dJ.2 ⟨fc Zb,(dJ.2 ⟨fc Ze,(dJ.2 ⟨fc Zj,(dJ.2 ⟨fc Zm,(dJ.2 ⟨fc Zp,(dJ.2 ⟨fc Zs,(dJ.2 ⟨fc Zv,(dJ.2 ⟨fc Zy,(dJ.2 ⟨fc ZB,(dJ.2 ⟨fc ZD,(dJ.2 ⟨fc ZI,(dJ.2 ⟨fc ZL,(dJ.2 ⟨fc ZN,(dJ.2 ⟨fc ZQ,(dJ.2 ⟨fc ZT,(dJ.2 ⟨fc ZW,(dJ.2 ⟨fc ZY,(λ_ h=>by cases h)⟩)⟩)⟩)⟩)⟩)⟩)⟩)⟩)⟩)⟩)⟩)⟩)⟩)⟩)⟩)⟩)⟩)⟩)⟩)⟩)⟩)⟩)⟩)⟩)⟩)⟩)⟩,b,o,rfl,hb,λj hj=>?_⟩
 match j,hj with
 |0,_=>exact h0
 |1,_=>exact h1
 |2,_=>exact h2
 |3,_=>exact h3
 |4,_=>exact h4
 |5,_=>exact h5
 |6,_=>exact h6
 |7,_=>exact h7
 |8,_=>exact h8
 |9,_=>exact h9
 |10,_=>exact Y9
 |11,_=>exact Zc
 |12,_=>exact Zf
 |13,_=>exact Zh
 |14,_=>exact Zk
 |15,_=>exact Zn
 |16,_=>exact Zq
 |17,_=>exact Zt
 |18,_=>exact Zw
 |19,_=>exact Zz
 |20,_=>exact ZC
 |21,_=>exact ZE
 |22,_=>exact ZG
 |23,_=>exact ZJ
 |24,_=>exact ZM
 |25,_=>exact ZO
 |26,_=>exact ZR
 |27,_=>exact ZU
 |28,_=>exact ZX
 |29,_=>exact ZZ
 |30,_=>exact Z1
 |j+31,hj=>exact absurd hj yq
instance:Inhabited yO:=⟨⟨0⟩⟩
theorem KO{w:World}{A:aY}{n:Nat}(h:Fb w A n [0]):∃f,M1 w A n f:=by
 refine choose_lt (α:=yO) (n:=n) (p:=λk a=>Nb a∧∃b o,A=some ⟨b,o,none⟩∧b<w.z∧∀j,j<1->w.cell? ⟨b,o+k*1+j,none⟩=a.cells[j]?) (λk hk=>?_);obtain⟨b,o,rfl,hb,hc⟩:=h k hk;obtain⟨_,h0,a0,rfl,w0⟩:=hc 0 0 rfl;refine⟨⟨a0⟩,⟨fc w0⟩,b,o,rfl,hb,λj hj=>?_⟩
 match j,hj with
 |0,_=>exact h0
namespace ends
theorem TM(os:Os)(started:os.Started)(H:Type)(enc:TypeId×Value->H) :
  ReturnsInHanded {} Tryz.checked os 3 .any (Rows.pilotEndsSpec.pre6 enc Tryz.prog Tryz.f3 Rows.pilotEndsRow.domain false) (Rows.pilotEndsSpec.post enc Tryz.prog Tryz.f3 false true false false):=by
 refine returnsInHanded_of_change (C:=Tryz.checked) Tryz.own started v7 Tryz.func3
  (ChangeSpec.witness6 (enc:=enc) (C:=Tryz.checked) false ⟨#[],#[.agg #[i6 0,i6 0],z7,z7,i6 0,.bool false],[]⟩ 8 v7 v7 v7 v7) ?_
 intro W v8 args ds gs before XT hW _ _;have Xe:∀(j:Nat) t v,Tryz.f3.params[j]?=some t->args[j]?=some v->Value.okWide Tryz.prog W .any v8 t v:=XT;have Z3:=hW;obtain⟨p,q,YS,hV,rfl,hfz,hnd⟩:=hW;have hA:DataW.TrodAll enc Tryz.prog W 0 (λ_=>true) true Tryz.f3.params.toList args.toList ds p:=YS;rw[Tryz.params3]at hA Xe;obtain⟨v0,vs0,d0,ds0,p0,q0,hargs,rfl,rfl,h0,r0⟩:=trodAll_cons hA;obtain⟨v1,vs1,d1,ds1,p1,q1,rfl,rfl,rfl,h1,r1⟩:=trodAll_cons r0;obtain⟨v2,vs2,d2,ds2,p2,q2,rfl,rfl,rfl,h2,r2⟩:=trodAll_cons r1;obtain⟨v3,vs3,d3,ds3,p3,q3,rfl,rfl,rfl,h3,r3⟩:=trodAll_cons r2;obtain⟨v4,vs4,d4,ds4,p4,q4,rfl,rfl,rfl,h4,r4⟩:=trodAll_cons r3;obtain⟨rfl,rfl,rfl⟩:=trodAll_nil r4;obtain rfl:args=#[v0,v1,v2,v3,v4]:=by cases args; simp_all
 obtain⟨Z4,rfl,Z5,YT⟩:=Nc Tryz.underlying23 (show yR Tryz.prog 4 23=some [0,0]by kernel_rfl) v7 (Xe 0 23 v0 rfl rfl) h0;obtain⟨_,Yw,a,rfl,Yx⟩:=YT 0 0 rfl;obtain⟨_,Yy,b,rfl,Yz⟩:=YT 1 0 rfl;obtain rfl:Z4=[i6 a,i6 b].toArray:=TN Z5 (λj hj=>by
  match j,hj with
  |0,_=>exact Yw
  |1,_=>exact Yy)
 obtain⟨A,n,cp,rfl,hl1,hm1,Z6⟩:=xE Tryz.underlying24 (show yR Tryz.prog 4 47=some [0,0,0,0,0,2,0,0,0,0,0,0,1,0,0,0,0,0,0,0,0,2,0,0,0,0,0,0,0,2,2]by kernel_rfl) (show Tryz.prog.cellsOf 47=31 by kernel_rfl) (by decide) (Xe 1 24 v1 rfl rfl) h1;obtain⟨YA,Yf⟩:=CW Z6;obtain⟨B,nb,oc,rfl,hl2,Z7,Z8⟩:=xE Tryz.underlying25 (show yR Tryz.prog 4 3=some [0]by kernel_rfl) (show Tryz.prog.cellsOf 3=1 by kernel_rfl) (by decide) (Xe 2 25 v2 rfl rfl) h2;have Z9:nb<=9223372036854775807:=by unfold maxLen at Z7; omega
 obtain⟨YB,Yg⟩:=KO Z8;obtain⟨lost,rfl,_,_,w3⟩:=open_int Tryz.underlying3 (Xe 3 3 v3 rfl rfl) h3;obtain⟨AQ,rfl,_⟩:=open_bool Tryz.underlying4 (Xe 4 4 v4 rfl rfl) h4;clear YS XT;refine(M0 a b A n cp YA B nb oc YB lost AQ (fc Yx) (fc Yz) (fc w3) Z9 W Yf Yg).mono λe W' ⟨he,hk⟩=>?_;subst he;exact⟨_,rfl,Nd (tb:=4) Tryz.laidOut (by rw[Tryz.params3]; intro t ht; simp at ht; first|(rcases ht with rfl|rfl|rfl|rfl|rfl<;>exact⟨by kernel_rfl,gV v7⟩)|(rcases ht with rfl|rfl|rfl|rfl<;>exact⟨by kernel_rfl,gV v7⟩)|(rcases ht with rfl|rfl|rfl<;>exact⟨by kernel_rfl,gV v7⟩)|(rcases ht with rfl|rfl<;>exact⟨by kernel_rfl,gV v7⟩)) v7 Tryz.underlying4 rfl rfl Z3 hk⟩
theorem proved:Rows.PilotEndsSaid:=
 OpenClaim.holds_of_wide 3 Tryz.f3 rfl rfl rfl rfl rfl rfl rfl ⟨rfl,rfl,rfl,rfl,rfl⟩ rfl rfl rfl rfl rfl v7 Tryz.func3 v7
  (gV v7) (by unfold Func.isWrapper; first|(rw[aA (by decide +kernel)]; kernel_rfl)|(rw[ay (by decide +kernel)]; exact⟨rfl,rfl⟩))
  (λos started H enc _=>TM os started H enc)
end ends
#print axioms ends.proved
end Go.Proofs.YtcmpkkapkdlfhaaGreat
