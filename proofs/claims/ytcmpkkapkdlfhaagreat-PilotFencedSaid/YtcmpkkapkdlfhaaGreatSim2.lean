import Derived.Test.YtcmpkkapkdlfhaaGreatPil19
namespace Go.Proofs.YtcmpkkapkdlfhaaGreat
open Go.RowKit
theorem PilX.kept0 {w w':World} {base pb:Nat} {x:PilC} {c:CM} {L:List OneM} (h:PilX w base pb x c L) (hk:Kept (fun _=>False) w w'):PilX w' base pb x c L:=by
 obtain ⟨v,hB,hR⟩:=h
 exact ⟨v,hB.kept hk (fun h=>h),hR.keptT (es:=[]) hk (fun _ h=>h.elim) rfl rfl rfl⟩
theorem PilS.kept0 {w w':World} {base pb:Nat} {x:PilC} {c:CM} (h:PilS w base pb x c) (hk:Kept (fun _=>False) w w'):PilS w' base pb x c:=h.keptT (es:=[]) hk (fun _ h=>h.elim) rfl rfl rfl
theorem PilS.law {w w':World} {base pb lb:Nat} {x:PilC} {c:CM} {es:List TypeId} (h:PilS w base pb x c) (hk:Kept (PilT es base lb pb x.cb w) w w') (hl:w.heap.size ≤ lb) (he:es.all (fun e=>TL17.contains e) = true):Kept (LawT w) w w':=
 hk.mono fun y hy ht=>by
  rcases ht with rfl | rfl | ⟨_,e,h1,h2⟩ | ⟨h1,_⟩
  ·exact ⟨98,rfl,blk_ty h.1⟩
  ·exact ⟨124,rfl,h.2.blk⟩
  ·exact ⟨e,by have h3:=List.all_eq_true.1 he e (by simpa using h1); simpa using h3,h2⟩
  ·exact absurd hy (by omega)
def StbG (F:World → Prop):Prop:=∀ w w' (T:Nat → Prop) (es:List TypeId),F w → Kept T w w' → (∀ y,T y → TysIn es w y) → es.all (fun e=>[98,124,141,65,59].contains e) = true → F w'
theorem StbG.kept0 {F:World → Prop} (h:StbG F) {w w':World} (hf:F w) (hk:Kept (fun _=>False) w w'):F w':=h w w' _ [] hf hk (fun _ h=>h.elim) rfl
def StbS (F:World → Prop):Prop:=∀ w w' (T:Nat → Prop),F w → Kept T w w' → (∀ y,T y → TysIn [98] w y) → F w'
theorem StbS.kept0 {F:World → Prop} (h:StbS F) {w w':World} (hf:F w) (hk:Kept (fun _=>False) w w'):F w':=h w w' _ hf hk (fun _ h=>h.elim)
theorem StbG.s {F:World → Prop} (h:StbG F):StbS F:=fun w w' T hf hk hT=>h w w' T _ hf hk hT rfl
theorem stbS_party {cb:Nat} {c:CM}:StbS (fun W=>∀ base',PartyX 124 141 W base' cb c):=fun _ _ _ h hk hT base'=>(h base').keptT hk hT rfl rfl
theorem recv_any {w:World} {B0 pb:Nat} {x:PilC} {c:CM} {α:Type} (X:α → PilC) (C:α → CM) (Ls:α → List OneM) (G:α → World → Prop) (es:List TypeId) (hes:es.contains 141 = true) (hesl:es.all (fun e=>TL17.contains e) = true) (H:World → Prop) (hH:StbG H) (hG:∀ a,StbS (G a)) (hcb:∀ a,(X a).cb = x.cb) (FN:Nat) (hFN:FN = 54 ∨ FN = 114 ∨ FN = 84 ∨ FN = 112 ∨ FN = 95 ∨ FN = 80 ∨ FN = 120 ∨ FN = 149) (R:List OneM) (o:OneM) (sy:SayR) (now:Int)
  (hS:PilS w B0 pb x c) (hbu:x.busy = true) (hnx:x.nx = .func (.func FN) #[.pointer (some ⟨pb,0,none⟩)] #[]) (hc:c.opn = o :: R) (hfr:(0 ≤ o.to ∧ o.to < 6) ∨ o.to = 100 ∨ (200 ≤ o.to ∧ o.to < 202)) (hfrm:200 ≤ c.frm ∧ c.frm < 202) (hid:1 ≤ o.id ∧ o.id ≤ 1099511627776) (hsy:SayOk sy) (hb0:B0 ≤ w.heap.size) (hH0:H w)
  (hnext:∀ wx,PilX wx B0 pb { x with lb:=w.heap.size } { c with opn:=R } [] → H wx → B0 ≤ wx.heap.size → Calls Tryz.prog FN #[.pointer (some ⟨pb,0,none⟩),i6 (within14 now),i6 o.to,.agg #[i6 o.q.kind,i6 o.q.stripe,i6 o.q.epoch,i6 o.q.seq,i6 o.q.mask,i6 o.q.node,i6 o.q.oe,i6 o.q.os,sT o.q.block],.agg #[i6 sy.st,i6 sy.ep,i6 sy.ou,.bool sy.rc.used,i6 sy.rc.fence,i6 sy.rc.de,i6 sy.rc.ds,sT sy.rc.block,.bool sy.rc.op,i6 sy.rc.ie,i6 sy.rc.is,i6 sy.rc.mask,sT sy.rc.staged]] wx (fun e w'=>e = .returned (.tuple #[]) ∧ (∃ a,PilX w' B0 pb { X a with lb:=w.heap.size } (C a) (Ls a) ∧ G a w') ∧ Kept (PilT es B0 w.heap.size pb x.cb wx) wx w')) :
  Calls Tryz.prog 19 #[.pointer (some ⟨pb,0,none⟩),i6 now,.agg #[i6 o.to,i6 c.frm,i6 o.id,.bool true,i6 0,i6 0,i6 0,i6 0,i6 0,i6 0,i6 0,i6 0,sT ⟨#[]⟩,i6 sy.st,i6 sy.ep,i6 sy.ou,.bool sy.rc.used,i6 sy.rc.fence,i6 sy.rc.de,i6 sy.rc.ds,sT sy.rc.block,.bool sy.rc.op,i6 sy.rc.ie,i6 sy.rc.is,i6 sy.rc.mask,sT sy.rc.staged]] w (fun e w'=>∃ a A ca,e = .returned (.slice A (Ls a).length ca) ∧ OwnR w' w.heap.size 65 26 A (Ls a).length ca (lettersC (C a).frm (Ls a)) ∧ PilS w' B0 pb (X a) (C a) ∧ G a w' ∧ Kept (PilT es B0 w.heap.size pb x.cb w) w w' ∧ Kept (LawT w) w w'):=by
 obtain ⟨lb,N,S,cb,lv,busy,kd,at_,da,sn,cn,nx,lg,en,ep,ou,db,te,ts,kn,rc,stl,rd,wr,bl,ud,ak,er,dt,ed⟩:=x
 dsimp only at hbu hnx hnext hcb ⊢
 subst hbu hnx
 have hX:=hS.pilX (lb':=w.heap.size) (Nat.le_refl _)
 refine (pilX_receive (⟨w.heap.size,N,S,cb,lv,true,kd,at_,da,sn,cn,.func (.func FN) #[.pointer (some ⟨pb,0,none⟩)] #[],lg,en,ep,ou,db,te,ts,kn,rc,stl,rd,wr,bl,ud,ak,er,dt,ed⟩:PilC) c [] pb B0 es hes
  (fun w'=>∃ a,PilX w' B0 pb { X a with lb:=w.heap.size } (C a) (Ls a) ∧ G a w') (by rintro w1 w2 ⟨a,h3,h4⟩ hk; exact ⟨a,h3.kept0 hk,(hG _).kept0 h4 hk⟩)
  (fun A n ca w'=>∃ a,n = (Ls a).length ∧ OwnR w' w.heap.size 65 26 A n ca (lettersC (C a).frm (Ls a)) ∧ PilS w' B0 pb (X a) (C a) ∧ G a w') (by rintro A n ca w1 w2 ⟨a,h1,h2,h4,h5⟩ hk; exact ⟨a,h1,h2.kept hk (fun _ _ h=>h),h4.kept0 hk,(hG _).kept0 h5 hk⟩)
  H hH FN hFN [] R o sy now hc (fun _ h=>by cases h) hfr hfrm hid hsy w hX hb0 hH0 (fun wx h1 h2 h3=>by have h4:=hnext wx h1 h2 h3; exact h4) (fun wx hE=>?_)).mono fun e w' hq=>?_
 ·obtain ⟨a,h3,h4⟩:=hE
  refine (pilX_sent1 { X a with lb:=w.heap.size } (C a) (Ls a) pb B0 wx h3).mono fun e w' hq=>?_
  obtain ⟨A,ca,e1,e2,e3,e4,e5⟩:=hq
  obtain ⟨v,hB,_⟩:=h3
  dsimp only at e2 e4
  rw [hcb a] at e4
  exact ⟨A,(Ls a).length,ca,e1,⟨a,rfl,e2,e3,hG _ _ _ _ h4 e5 (fun y hy=>by subst hy; exact ⟨98,by simp,blk_ty hB⟩)⟩,e4.mono fun y _ h=>h.mono rfl⟩
 ·obtain ⟨A,n,ca,e1,⟨a,rfl,e2,e4,e5⟩,e6⟩:=hq
  exact ⟨a,A,ca,e1,e2,e4,e5,e6,hS.law e6 (Nat.le_refl _) hesl⟩
end Go.Proofs.YtcmpkkapkdlfhaaGreat
namespace Go.Proofs.YtcmpkkapkdlfhaaGreat
open Go.RowKit
set_option maxHeartbeats 4000000
set_option maxRecDepth 100000
section
variable (s:SimM) (b:Nat) (now frm id:Int) (i:Nat) (E O:Int) (w:World)
def snk_v1:List Value:=[i6 8,i6 (i:Int)] ++ rp 6 (i6 0) ++ [sT ⟨#[]⟩]
def snk_v2:List Value:=[i6 1,i6 (E + 1),i6 O,.bool false,i6 0,i6 0,i6 0,sT ⟨#[]⟩,.bool false,i6 0,i6 0,i6 0,sT ⟨#[]⟩]
def snk_v3:List Value:=[i6 frm,i6 100,i6 id,.bool false,i6 8,i6 (i:Int)] ++ rp 6 (i6 0) ++ [sT ⟨#[]⟩,i6 0,i6 0,i6 0,.bool false,i6 0,i6 0,i6 0,sT ⟨#[]⟩,.bool false,i6 0,i6 0,i6 0,sT ⟨#[]⟩]
def snk_v4:List Value:=rp 3 (i6 0) ++ [.bool false] ++ rp 8 (i6 0) ++ [sT ⟨#[]⟩] ++ rp 3 (i6 0) ++ [.bool false] ++ rp 3 (i6 0) ++ [sT ⟨#[]⟩,.bool false] ++ rp 3 (i6 0) ++ [sT ⟨#[]⟩]
def snk_v5:List Value:=[i6 100,i6 frm,i6 id,.bool true] ++ rp 8 (i6 0) ++ [sT ⟨#[]⟩,i6 0,i6 0,i6 0,.bool false,i6 0,i6 0,i6 0,sT ⟨#[]⟩,.bool false,i6 0,i6 0,i6 0,sT ⟨#[]⟩]
def snk_v6:List Value:=rp 3 (i6 0) ++ [.bool false] ++ rp 3 (i6 0) ++ [sT ⟨#[]⟩,.bool false] ++ rp 3 (i6 0) ++ [sT ⟨#[]⟩]
def snk_v7:List Value:=((((snk_v5 frm id).set 13 (i6 1)).set 14 (i6 (E + 1))).set 15 (i6 O))
@[simp] def snk_b1:List Bk:=[⟨s.sb,54,false,s.cells⟩,⟨w.heap.size,65,true,(snk_v3 frm id i)⟩,⟨w.heap.size + 1,65,true,(snk_v4)⟩,⟨w.heap.size + 2,65,true,(snk_v5 frm id)⟩]
@[simp] def snk_b2 (d:Option Nat):List Bk:=[⟨s.sb,54,false,s.cells⟩,⟨w.heap.size,65,true,(snk_v3 frm id i)⟩,⟨w.heap.size + 1,65,true,(snk_v4)⟩,⟨w.heap.size + 2,65,true,(snk_v5 frm id)⟩,⟨(d.getD 0),63,true,(snk_v2 E O)⟩]
@[simp] def snk_b3 (g:Nat) (w:World):List Bk:=[⟨s.sb,54,false,s.cells⟩,⟨w.heap.size,65,true,(snk_v3 frm id i)⟩,⟨w.heap.size + 1,65,true,(snk_v4)⟩,⟨w.heap.size + 2,65,true,(snk_v5 frm id)⟩,⟨g,63,true,(snk_v2 E O)⟩]
def snk_Q:Exit → Act → World → Prop:=bodyPost Tryz.prog Tryz.f18 (fun e w'=>e = .returned (.tuple #[.agg (List.toArray (snk_v7 frm id E O)),.bool true]) ∧ SimAt w' b (s.setK i ⟨E + 1,frm,now + 30,O⟩ (Int.toNat (frm - 200)) id ⟨1,E + 1,O,⟨false,0,0,0,⟨#[]⟩,false,0,0,0,⟨#[]⟩⟩⟩) ∧ Kept (fun y=>y = s.gL ∨ y = s.gI ∨ y = s.gS) w w')
def snk_y2s:List (Nat × Value):=[(0,(pt s.sb 0)),(1,i6 now),(5,(pt w.heap.size 0)),(6,(pt (w.heap.size + 1) 0)),(7,.bool false),(8,(pt (w.heap.size + 2) 0))]
def snk_y2v (d:Option Nat):List (Option Value):=[some ((pt s.sb 0)),some ((pt s.sb 0)),some ((pt s.sb 3)),some ((pt s.kb 0)),some (i6 now),some ((pt w.heap.size 0)),some (i6 frm),some ((pt w.heap.size 2)),some (i6 id),some ((pt w.heap.size 4)),some (.agg (List.toArray (snk_v1 i))),some (.tuple #[.agg (List.toArray (snk_v2 E O)),.bool true]),some (.tuple #[.agg (List.toArray (snk_v2 E O)),.bool true]),some (.agg (List.toArray (snk_v2 E O))),some (.bool true),some (.pointer (some ⟨(d.getD 0),0,none⟩)),some (.tuple #[]),some (.bool true)]
def snk_y2F (d:Option Nat) (k:Nat):Bool:=([true,true,true,true,true,true,true,true,true,true,true,true,true,true,true,d.isSome,true,true]:List Bool)[k]?.getD true
def snk_y2m (d:Option Nat):List (List Bk):=[(snk_b1 s frm id i w),(snk_b1 s frm id i w),(snk_b2 s frm id i E O w d)]
abbrev snk_y2X (s:SimM) (b:Nat) (now:Int) (frm:Int) (id:Int) (i:Nat) (E:Int) (O:Int) (w:World) (c_:Nat) (d:Option Nat) (W_:World):Prop:=match c_ with | 0=>(SimAt W_ b s) ∧ (∀ g_,d = some g_ → (w.heap.size + 3) ≤ g_ ∧ Blk W_ g_ 63 (snk_v6)) | 1=>(SimAt W_ b (s.setK i ⟨E + 1,frm,now + 30,O⟩ (Int.toNat (frm - 200)) id ⟨1,E + 1,O,⟨false,0,0,0,⟨#[]⟩,false,0,0,0,⟨#[]⟩⟩⟩)) ∧ (∀ g_,d = some g_ → (w.heap.size + 3) ≤ g_ ∧ Blk W_ g_ 63 (snk_v6)) | 2=>((SimAt W_ b (s.setK i ⟨E + 1,frm,now + 30,O⟩ (Int.toNat (frm - 200)) id ⟨1,E + 1,O,⟨false,0,0,0,⟨#[]⟩,false,0,0,0,⟨#[]⟩⟩⟩)) ∧ w.heap.size + 3 ≤ d.getD 0) ∧ True | _=>True
def snk_y2C (i_:Nat):Prop:=cY Tryz.prog Tryz.f18 [1,1,1,0,1,0,0] 107 [] (snk_Q s b now frm id i E O w) [.code [1,1,1,0,1,0,1],.code [1,1,1,1]] (snk_y2s s now w) [none,none,none,none,none,none,none,none,none,none,none,some 0,none,none,none,none,some 1,none] 2 (snk_y2v s now frm id i E O w) snk_y2F w (fun y=>y = s.gL ∨ y = s.gI ∨ y = s.gS) (snk_y2m s frm id i E O w) (w.heap.size + 3) (snk_y2X s b now frm id i E O w) i_
end
theorem ans_keeper (s:SimM) (b i:Nat) (now frm id E H U O v:Int) (hi:i < s.S) (hS8:s.S ≤ 8) (hl:s.lea i = ⟨E,H,U,O⟩) (hU:U ≤ now) (hE:0 ≤ E ∧ E < 16777215) (hnow:0 ≤ now ∧ now ≤ 1099511627776) (hfr:200 ≤ frm ∧ frm < 202) (hid:1 ≤ id ∧ id ≤ 1099511627776 ∧ v < id) (hv:s.ids[Int.toNat (frm - 200)]? = some v) (hil:s.ids.length = 2) (hsl:s.says.length = 2) (w:World) (hA:SimAt w b s) (hbw:b ≤ w.heap.size) :
  Calls Tryz.prog 18 #[.pointer (some ⟨s.sb,0,none⟩),i6 now,.agg #[i6 frm,i6 100,i6 id,.bool false,i6 8,i6 (i:Int),i6 0,i6 0,i6 0,i6 0,i6 0,i6 0,sT ⟨#[]⟩,i6 0,i6 0,i6 0,.bool false,i6 0,i6 0,i6 0,sT ⟨#[]⟩,.bool false,i6 0,i6 0,i6 0,sT ⟨#[]⟩]] w (fun e w'=>e = .returned (.tuple #[.agg #[i6 100,i6 frm,i6 id,.bool true,i6 0,i6 0,i6 0,i6 0,i6 0,i6 0,i6 0,i6 0,sT ⟨#[]⟩,i6 1,i6 (E + 1),i6 O,.bool false,i6 0,i6 0,i6 0,sT ⟨#[]⟩,.bool false,i6 0,i6 0,i6 0,sT ⟨#[]⟩],.bool true]) ∧ SimAt w' b (s.setK i ⟨E + 1,frm,now + 30,O⟩ (Int.toNat (frm - 200)) id ⟨1,E + 1,O,⟨false,0,0,0,⟨#[]⟩,false,0,0,0,⟨#[]⟩⟩⟩) ∧ Kept (fun y=>y = s.gL ∨ y = s.gI ∨ y = s.gS) w w'):=by
 refine cH (S:=(fun _=>False)) (n:=107) Tryz.func18 (MemOk.start (bk:=[⟨s.sb,54,false,s.cells⟩]) (wn:=[]) (fun b_ hb=>by obtain rfl:=List.mem_singleton.1 hb; exact hA.sim) (fun b_ hb hr=>by obtain rfl:=List.mem_singleton.1 hb; cases hr) (by simp) (by simp)) ?_
 have hgs:=hA.sim.lt
 have hsb:=hA.low.1
 have htk:=hA.tyK
 refine hgE 38 (dz 19 0x1001011801a00380001021800100180010118000103180000) [0,1,5,6,7,8] [fF,tT] [(w.heap.size,3,1),(w.heap.size,1,1),(w.heap.size,0,1),(w.heap.size,2,1),(w.heap.size + 2,0,26),(w.heap.size,1,1)] [.code [1,1,1,0,1,0,0],.code [1,1,1,0,1,0,1],.code [1,1,1,1]] ⟨[(0,(pt s.sb 0)),(1,i6 now),(5,(pt w.heap.size 0)),(6,(pt (w.heap.size + 1) 0)),(7,.bool false),(8,(pt (w.heap.size + 2) 0))],(snk_b1 s frm id i w),[],w.heap.size + 3⟩ ?_
 have snk_y2_X:StayY w (fun y=>y = s.gL ∨ y = s.gI ∨ y = s.gS) (snk_y2m s frm id i E O w) (snk_y2X s b now frm id i E O w):=by
  intro c_ d wx w' bk hb hm hx hk
  match c_,hb,hx with
  | 0,hb,hx=>
   obtain rfl:=Option.some.inj hb
   refine ⟨hx.1.kept hk (fun y ⟨b_,hb,hr,he⟩=>by simp at hb; rcases hb with rfl | rfl | rfl | rfl <;> simp at hr he <;> exact .inl (by omega)),fun g_ hg_=>⟨(hx.2 g_ hg_).1,(hx.2 g_ hg_).2.kept hk (fun ⟨b_,hb,hr,he⟩=>?_)⟩⟩
   have h9:=(hx.2 g_ hg_).1
   simp at hb
   rcases hb with rfl | rfl | rfl | rfl <;> simp at hr he <;> omega
  | 1,hb,hx=>
   obtain rfl:=Option.some.inj hb
   refine ⟨hx.1.kept hk (fun y ⟨b_,hb,hr,he⟩=>by simp at hb; rcases hb with rfl | rfl | rfl | rfl <;> simp at hr he <;> exact .inl (by omega)),fun g_ hg_=>⟨(hx.2 g_ hg_).1,(hx.2 g_ hg_).2.kept hk (fun ⟨b_,hb,hr,he⟩=>?_)⟩⟩
   have h9:=(hx.2 g_ hg_).1
   simp at hb
   rcases hb with rfl | rfl | rfl | rfl <;> simp at hr he <;> omega
  | 2,hb,hx=>
   obtain rfl:=Option.some.inj hb
   exact ⟨⟨hx.1.1.kept hk (fun y ⟨b_,hb,hr,he⟩=>by have h9:=hx.1.2; simp at hb; rcases hb with rfl | rfl | rfl | rfl | rfl <;> simp at hr he <;> exact .inl (by omega)),hx.1.2⟩,trivial⟩
  | c_ + 3,hb,hx=>exact trivial
 have snk_y2_c11:snk_y2C s b now frm id i E O w 11:=cyC (s:=0) (f:=39) (args:=fun d=>[(pt s.kb 0),i6 now,i6 frm,i6 id,.agg (List.toArray (snk_v1 i))]) (ob:=fun d=>[]) (fun (d:Option Nat) (_:Unit)=>d) (fun d=>.tuple #[.agg (List.toArray (snk_v2 E O)),.bool true]) (fun d=>trivial) (fun d wx bk hb hm hx hcame=>by
  obtain rfl:=Option.some.inj hb
  have hxs:=hx.1
  refine (keeperDo (i:Int) frm now E H U O s.leaL s.S s.gL s.gI s.gS s.cL s.kb 0 ⟨by omega,by omega⟩ hS8 (by simp [SimM.leaL]) (by rw [Int.toNat_natCast,SimM.leaL,List.getElem?_map,List.getElem?_range hi]; exact congrArg some hl) hU hE hnow id v s.ids s.says hfr hid hv hil hsl wx hxs.kee hxs.lea hxs.ids hxs.say).mono fun e w' hq=>?_
  obtain ⟨h1,h2,h3,h4,h5⟩:=hq
  rw [Int.toNat_natCast] at h2
  exact ⟨(),h1,rfl,⟨hxs.setK h5 h2 h3 h4,fun g_ hg_=>⟨(hx.2 g_ hg_).1,(hx.2 g_ hg_).2.kept h5 (fun hy=>absurd (htk _ hy) (by have:=(hx.2 g_ hg_).1; omega))⟩⟩,hm.offA (fun _ h=>h) h5 (fun y hy=>.inl hy) (fun b_ hb hy=>by
   have h8:=blk_ty (hm.blk b_ hb)
   have hK:TysIn [73,3,63] wx b_.g:=by
    rcases hy with h | h | h
    ·exact ⟨73,by simp,h ▸ hxs.lea.ty _ ⟨_,rfl,rfl⟩⟩
    ·exact ⟨3,by simp,h ▸ hxs.ids.ty _ ⟨_,rfl,rfl⟩⟩
    ·exact ⟨63,by simp,h ▸ hxs.say.ty _ ⟨_,rfl,rfl⟩⟩
   exact tysIn_not (by simp at hb; rcases hb with rfl | rfl | rfl | rfl <;> rfl) h8 hK),h5.size⟩)
 have snk_y2_c15:snk_y2C s b now frm id i E O w 15:=cyN 1 63 (snk_v6) (fun _ g=>some g) (fun g=>(pt g 0)) (fun c_ d wx w' bk hcB hb hm hx hk hz hBl=>by
  have hs:=snk_y2_X c_ d wx w' bk hb hm hx hk
  match c_,hb,hx,hs,hcB with
  | 0,hb,hx,hs,hcB=>exact ⟨hs.1,(fun g_ hg_=>by obtain rfl:=Option.some.inj hg_; exact ⟨hz,hBl⟩)⟩
  | 1,hb,hx,hs,hcB=>exact ⟨hs.1,(fun g_ hg_=>by obtain rfl:=Option.some.inj hg_; exact ⟨hz,hBl⟩)⟩
  | c_ + 2,hb,hx,hs,hcB=>exact absurd hcB (by omega))
 have snk_y2_c16:snk_y2C s b now frm id i E O w 16:=cyS (s:=1) (x:=fun d=>Instr.storeAt 63 (.pointer (some ⟨(d.getD 0),0,none⟩)) (.agg (List.toArray (snk_v2 E O)))) (fun (d:Option Nat) (_:Unit)=>d) (fun d wx bk hb hm hx hcame=>by
  obtain rfl:=Option.some.inj hb
  obtain ⟨g_,rfl⟩:∃ g_,d = some g_:=Option.isSome_iff_exists.1 (hcame 15 (List.mem_of_getElem? (i:=0) (by kernel_rfl)) (dst_ne (k:=9) (by kernel_rfl)))
  obtain ⟨hzg,hBg⟩:=hx.2 g_ rfl
  obtain ⟨w',h1,hB1,hk1,hz1⟩:=store_to (P:=Tryz.prog) (t:=63) (v:=.agg (List.toArray (snk_v2 E O))) (by kernel_rfl) hBg rfl (by show 0 + 13 ≤ 13; omega) (ones_all rfl) rfl
  refine ⟨(),w',h1,rfl,⟨⟨hx.1.kept hk1 (fun y hy=>.inl (by omega)),hzg⟩,trivial⟩,hm.adopt (g:=g_) hk1 hB1 (by omega) (fun b_ hb e=>?_),Nat.le_of_eq hz1.symm⟩
  have h8:=blk_ty (hm.blk b_ hb)
  simp at hb
  rcases hb with rfl | rfl | rfl | rfl <;> exact ty_off (blk_ty hBg) e h8 rfl)
 have snk_y2_R:∀ e_ ∈ (rZsY 2 [0,1,2,4,5,7,9,12,13,14,17] ++ [rY 3 2 0 3 1 s.sb,rY 6 2 1 0 1 w.heap.size,rY 8 2 1 2 1 w.heap.size,rY 10 2 1 4 9 w.heap.size]:List (RegY (Option Nat))),snk_y2C s b now frm id i E O w e_.i:=certsY_reg _ snk_y2_X (fun d=>by kernel_rfl) (by kernel_rfl) (fun d sz=>by kernel_rfl)
 have snk_y2_A:∀ i_,i_ < 18 → snk_y2C s b now frm id i E O w i_:=allY (l:=[11,15,16]) (by kernel_rfl) snk_y2_R ⟨snk_y2_c11,snk_y2_c15,snk_y2_c16,trivial⟩
 refine holds_mixY (Δ:=Option Nat) (fun y=>y = s.gL ∨ y = s.gI ∨ y = s.gS) (snk_y2v s now frm id i E O w) snk_y2F (snk_y2m s frm id i E O w) (snk_y2X s b now frm id i E O w) [0,5,6,7,8,9,10] (fun d=>[(0,(pt s.sb 0)),(5,(pt w.heap.size 0)),(6,(pt (w.heap.size + 1) 0)),(7,.bool false),(8,(pt (w.heap.size + 2) 0)),(9,.pointer (some ⟨(d.getD 0),0,none⟩)),(10,.bool true)]) (fun d=>(snk_b2 s frm id i E O w d)) none (fun _ h=>h.elim) (by kernel_rfl) (by kernel_rfl) (by kernel_rfl) (fun wx hm=>⟨hA.kept hm.kept.drew (fun _ h=>h.elim),fun _ h=>by cases h⟩) (by kernel_rfl) snk_y2_A (fun d=>by kernel_rfl) (fun d=>by kernel_rfl) (fun d W1 hfin hX1 hz1 hm1=>?_)
 obtain ⟨g,rfl⟩:∃ g,d = some g:=Option.isSome_iff_exists.1 (hfin 15 (Nat.le_of_ble_eq_true (by kernel_rfl)) (dst_ne (k:=9) (by kernel_rfl)))
 obtain ⟨⟨hA1,hg0⟩,_⟩:=hX1
 replace hg0:w.heap.size + 3 ≤ g:=hg0
 replace hm1:MemOk w (fun y=>y = s.gL ∨ y = s.gI ∨ y = s.gS) (snk_b3 s frm id i E O g w) [] W1.heap.size W1:=hm1
 change Holds _ _ _ _ W1 (Turned (snk_b3 s frm id i E O g w)) _ [.code [1,1,1,0,1,0,1],.code [1,1,1,1]] ⟨[(0,(pt s.sb 0)),(5,(pt w.heap.size 0)),(6,(pt (w.heap.size + 1) 0)),(7,.bool false),(8,(pt (w.heap.size + 2) 0)),(9,(pt g 0)),(10,.bool true)],(snk_b3 s frm id i E O g w),[],W1.heap.size⟩
 refine hgS 16 (dz 7 0x1a002801a00380d0d3800d0048) [0,5,6,7,8] [] [(g,0,13),(w.heap.size + 2,13,13),(w.heap.size + 2,0,26),(w.heap.size + 1,0,26)] [.code [1,1,1,0,1,0,1,1,1],.code [1,1,1,1]] [⟨s.sb,54,false,s.cells⟩,⟨w.heap.size,65,true,(snk_v3 frm id i)⟩,⟨w.heap.size + 1,65,true,(snk_v7 frm id E O)⟩,⟨w.heap.size + 2,65,true,(snk_v7 frm id E O)⟩,⟨g,63,true,(snk_v2 E O)⟩] [] W1.heap.size ?_
 refine hrt [[⟨false,2,0,26⟩]] [.agg (List.toArray (snk_v7 frm id E O)),.bool true] [(w.heap.size + 1,0,26)] ?_
 intro wx hm
 exact ⟨rfl,hA1.kept hm.kept (fun y ⟨b_,hb,hr,he⟩=>by simp at hb; rcases hb with rfl | rfl | rfl | rfl | rfl <;> simp at hr he <;> exact .inl (by omega)),(MemOk.bck hm1 hm).kept⟩
section
variable (s:SimM) (frm id:Int) (q:AskM) (r r':RecM) (sy:SayR) (n i:Nat) (w:World) (_:Unit)
def sna_v1:List Value:=[i6 frm,i6 (n:Int),i6 id,.bool false,i6 q.kind,i6 (i:Int),i6 q.epoch,i6 q.seq,i6 q.mask,i6 q.node,i6 q.oe,i6 q.os,sT q.block,i6 0,i6 0,i6 0,.bool false,i6 0,i6 0,i6 0,sT ⟨#[]⟩,.bool false,i6 0,i6 0,i6 0,sT ⟨#[]⟩]
def sna_v2:List Value:=rp 3 (i6 0) ++ [.bool false] ++ rp 8 (i6 0) ++ [sT ⟨#[]⟩] ++ rp 3 (i6 0) ++ [.bool false] ++ rp 3 (i6 0) ++ [sT ⟨#[]⟩,.bool false] ++ rp 3 (i6 0) ++ [sT ⟨#[]⟩]
def sna_v3:List Value:=[i6 (n:Int),i6 frm,i6 id,.bool true] ++ rp 8 (i6 0) ++ [sT ⟨#[]⟩,i6 0,i6 0,i6 0,.bool false,i6 0,i6 0,i6 0,sT ⟨#[]⟩,.bool false,i6 0,i6 0,i6 0,sT ⟨#[]⟩]
def sna_v4:List Value:=[.bool r.used,i6 r.fence,i6 r.de,i6 r.ds,sT r.block,.bool r.op,i6 r.ie,i6 r.is,i6 r.mask,sT r.staged]
def sna_v5:List Value:=[i6 q.kind,i6 (i:Int),i6 q.epoch,i6 q.seq,i6 q.mask,i6 q.node,i6 q.oe,i6 q.os,sT q.block]
def sna_v6:List Value:=[.bool r'.used,i6 r'.fence,i6 r'.de,i6 r'.ds,sT r'.block,.bool r'.op,i6 r'.ie,i6 r'.is,i6 r'.mask,sT r'.staged]
def sna_v7:List Value:=[i6 sy.st,i6 sy.ep,i6 sy.ou,.bool sy.rc.used,i6 sy.rc.fence,i6 sy.rc.de,i6 sy.rc.ds,sT sy.rc.block,.bool sy.rc.op,i6 sy.rc.ie,i6 sy.rc.is,i6 sy.rc.mask,sT sy.rc.staged]
def sna_v8:List Value:=[i6 (n:Int),i6 frm,i6 id,.bool true] ++ rp 8 (i6 0) ++ [sT ⟨#[]⟩,i6 sy.st,i6 sy.ep,i6 sy.ou,.bool sy.rc.used,i6 sy.rc.fence,i6 sy.rc.de,i6 sy.rc.ds,sT sy.rc.block,.bool sy.rc.op,i6 sy.rc.ie,i6 sy.rc.is,i6 sy.rc.mask,sT sy.rc.staged]
@[simp] def sna_b1:List Bk:=[⟨s.sb,54,false,s.cells⟩,⟨w.heap.size,65,true,(sna_v1 frm id q n i)⟩,⟨w.heap.size + 1,65,true,(sna_v2)⟩,⟨w.heap.size + 2,65,true,(sna_v3 frm id n)⟩]
@[simp] def sna_b2:List Bk:=[⟨s.sb,54,false,s.cells⟩,⟨w.heap.size,65,true,(sna_v1 frm id q n i)⟩,⟨w.heap.size + 1,65,true,(sna_v2)⟩,⟨w.heap.size + 2,65,true,(sna_v8 frm id sy n)⟩]
theorem sna_q2:Out.prune [0,5,6,7,8,72] (qListG Tryz.prog 107 w (fun _=>False) (opsOf (getCode (bodyOf Tryz.f18) [1,1,1,1,0,0])) (opsOf (getCode (bodyOf Tryz.f18) [1,1,1,1,0,0])).toList ⟨[(0,(pt s.sb 0)),(5,(pt w.heap.size 0)),(6,(pt (w.heap.size + 1) 0)),(7,.bool false),(8,(pt (w.heap.size + 2) 0))],(sna_b1 s frm id q n i w),[],w.heap.size + 3⟩ [(false,.op oh0),(false,.op (oA 1 1 1)),(false,.op oh0),(false,.op oh0),(false,.op oh0),(false,.op (oA 1 1 1)),(false,.op oh0),(false,.op oh0),(false,.op oh0),(false,.op oh0),(false,.op (oA 0 0 1)),(false,.op oh0),(false,.op ⟨false,3,[]⟩),(false,.op oh0),(false,.op oh0),(false,.op oh0),(false,.op (oA 1 5 1)),(false,.op oh0),(false,.op oh0),(false,.op oh0),(false,.op oh0),(false,.op (oA 0 1 1)),(false,.op oh0),(false,.op ⟨false,3,[]⟩),(false,.op oh0),(false,.op oh0),(false,.op oh0),(false,.op (oA 1 5 1)),(false,.op oh0),(false,.op ⟨false,3,[]⟩)]) = some ⟨[(decide (((n:Int):Int) < 0)) = false,(decide (((n:Int):Int) < 0)) = false,(decide (((n:Int):Int) < 0)) = false,(decide (((n:Int):Int) < 0)) = false,(decide (((n:Int):Int) < 0)) = false,(decide (((n:Int):Int) < 0)) = false,(decide (((n:Int):Int) < 0)) = false,(decide (((n:Int):Int) < 0)) = false,(decide (((n:Int):Int) < 0)) = false,(decide (((n:Int):Int) ≥ (s.N:Int))) = false,(decide (((n:Int):Int) ≥ (s.N:Int))) = false,(decide (((n:Int):Int) ≥ (s.N:Int))) = false,(decide (((n:Int):Int) ≥ (s.N:Int))) = false,(decide (((n:Int):Int) ≥ (s.N:Int))) = false,(decide (((n:Int):Int) ≥ (s.N:Int))) = false,(decide (((n:Int):Int) ≥ (s.N:Int))) = false,(decide (((n:Int):Int) ≥ (s.N:Int))) = false,(decide (((n:Int):Int) ≥ (s.N:Int))) = false,(decide (((n:Int):Int) ≥ (s.N:Int))) = false,(decide (((i:Int):Int) ≥ (s.S:Int))) = false,(decide (((i:Int):Int) ≥ (s.S:Int))) = false,(decide (((i:Int):Int) ≥ (s.S:Int))) = false,(decide (((i:Int):Int) ≥ (s.S:Int))) = false,(decide (((i:Int):Int) ≥ (s.S:Int))) = false],dupR [(w.heap.size,1,1),(w.heap.size,1,1),(s.sb,0,1),(w.heap.size,5,1),(s.sb,1,1),(w.heap.size,5,1)],⟨[(0,(pt s.sb 0)),(5,(pt w.heap.size 0)),(6,(pt (w.heap.size + 1) 0)),(7,.bool false),(8,(pt (w.heap.size + 2) 0)),(72,.bool (decide (((i:Int):Int) < 0)))],(sna_b1 s frm id q n i w),[],w.heap.size + 3⟩⟩:=by kernel_rfl
def sna_y4s:List (Nat × Value):=[(0,(pt s.sb 0)),(5,(pt w.heap.size 0)),(6,(pt (w.heap.size + 1) 0)),(7,.bool false),(8,(pt (w.heap.size + 2) 0))]
def sna_y4v (_:Unit):List (Option Value):=[some ((pt s.sb 0)),some ((pt s.sb 0)),some ((pt s.sb 2)),some (.slice (some ⟨s.gO,0,none⟩) s.N s.cO),some ((pt w.heap.size 1)),some (i6 (n:Int)),some (.pointer (some ⟨s.gO,0 + n * 1,none⟩)),some (.slice (some ⟨(s.row n).1,0,none⟩) s.S ((s.row n).2)),some ((pt w.heap.size 4)),some ((pt w.heap.size 5)),some (i6 (i:Int)),some ((pt s.sb 0)),some ((pt s.sb 0)),some ((pt s.sb 2)),some (.slice (some ⟨s.gO,0,none⟩) s.N s.cO),some ((pt w.heap.size 1)),some (i6 (n:Int)),some (.pointer (some ⟨s.gO,0 + n * 1,none⟩)),some (.slice (some ⟨(s.row n).1,0,none⟩) s.S ((s.row n).2)),some ((pt w.heap.size 4)),some ((pt w.heap.size 5)),some (i6 (i:Int)),some (.pointer (some ⟨(s.row n).1,0 + i * 10,none⟩)),some (.agg (List.toArray (sna_v4 r))),some ((pt w.heap.size 4)),some (.agg (List.toArray (sna_v5 q i))),some (.tuple #[.agg (List.toArray (sna_v6 r')),.agg (List.toArray (sna_v7 sy))]),some (.tuple #[.agg (List.toArray (sna_v6 r')),.agg (List.toArray (sna_v7 sy))]),some (.agg (List.toArray (sna_v6 r'))),some (.agg (List.toArray (sna_v7 sy))),some (.pointer (some ⟨(s.row n).1,0 + i * 10,none⟩)),some (.tuple #[]),some ((pt (w.heap.size + 2) 13)),some (.tuple #[])]
def sna_y4F (_:Unit) (k:Nat):Bool:=([true,true,true,true,true,true,true,true,true,true,true,true,true,true,true,true,true,true,true,true,true,true,true,true,true,true,true,true,true,true,true,true,true,true]:List Bool)[k]?.getD true
def sna_y4m (_:Unit):List (List Bk):=[(sna_b1 s frm id q n i w),(sna_b1 s frm id q n i w),(sna_b2 s frm id q sy n i w)]
abbrev sna_y4X (s:SimM) (b:Nat) (r':RecM) (n:Nat) (i:Nat) (c_:Nat) (_:Unit) (W_:World):Prop:=match c_ with | 0=>SimAt W_ b s | 1=>SimAt W_ b (s.setR n i r') | 2=>SimAt W_ b (s.setR n i r') | _=>True
def sna_y4C (b:Nat) (frm:Int) (id:Int) (q:AskM) (r:RecM) (r':RecM) (sy:SayR) (n:Nat) (i:Nat) (w:World) (z2:Nat) (i_:Nat):Prop:=cY Tryz.prog Tryz.f18 [1,1,1,1,1,0] 107 [] (bodyPost Tryz.prog Tryz.f18 (fun e w'=>e = .returned (.tuple #[.agg (List.toArray (sna_v8 frm id sy n)),.bool true]) ∧ SimAt w' b (s.setR n i r') ∧ Kept (fun y=>y = (s.row n).1) w w')) [.code [1,1,1,1,1,1]] (sna_y4s s w) [none,none,none,none,none,none,none,none,none,none,none,none,none,none,none,none,none,none,none,none,none,none,none,none,none,none,none,none,none,none,none,some 0,none,some 1] 2 (sna_y4v s q r r' sy n i w) sna_y4F w (fun y=>y = (s.row n).1) (sna_y4m s frm id q sy n i w) z2 (sna_y4X s b r' n i) i_
end
theorem ans_node (s:SimM) (b n i:Nat) (now frm id:Int) (q:AskM) (r r':RecM) (sy:SayR) (hn:n < s.N) (hi:i < s.S) (hN:s.N ≤ 6) (hr:s.recs n i = r) (w:World) (hA:SimAt w b s) (hbw:b ≤ w.heap.size) (hap:∀ wx,Calls Tryz.prog 40 #[.agg #[.bool r.used,i6 r.fence,i6 r.de,i6 r.ds,sT r.block,.bool r.op,i6 r.ie,i6 r.is,i6 r.mask,sT r.staged],.agg #[i6 q.kind,i6 (i:Int),i6 q.epoch,i6 q.seq,i6 q.mask,i6 q.node,i6 q.oe,i6 q.os,sT q.block]] wx (RetK (.tuple #[.agg #[.bool r'.used,i6 r'.fence,i6 r'.de,i6 r'.ds,sT r'.block,.bool r'.op,i6 r'.ie,i6 r'.is,i6 r'.mask,sT r'.staged],.agg #[i6 sy.st,i6 sy.ep,i6 sy.ou,.bool sy.rc.used,i6 sy.rc.fence,i6 sy.rc.de,i6 sy.rc.ds,sT sy.rc.block,.bool sy.rc.op,i6 sy.rc.ie,i6 sy.rc.is,i6 sy.rc.mask,sT sy.rc.staged]]) wx)) :
  Calls Tryz.prog 18 #[.pointer (some ⟨s.sb,0,none⟩),i6 now,.agg #[i6 frm,i6 (n:Int),i6 id,.bool false,i6 q.kind,i6 (i:Int),i6 q.epoch,i6 q.seq,i6 q.mask,i6 q.node,i6 q.oe,i6 q.os,sT q.block,i6 0,i6 0,i6 0,.bool false,i6 0,i6 0,i6 0,sT ⟨#[]⟩,.bool false,i6 0,i6 0,i6 0,sT ⟨#[]⟩]] w (fun e w'=>e = .returned (.tuple #[.agg #[i6 (n:Int),i6 frm,i6 id,.bool true,i6 0,i6 0,i6 0,i6 0,i6 0,i6 0,i6 0,i6 0,sT ⟨#[]⟩,i6 sy.st,i6 sy.ep,i6 sy.ou,.bool sy.rc.used,i6 sy.rc.fence,i6 sy.rc.de,i6 sy.rc.ds,sT sy.rc.block,.bool sy.rc.op,i6 sy.rc.ie,i6 sy.rc.is,i6 sy.rc.mask,sT sy.rc.staged],.bool true]) ∧ SimAt w' b (s.setR n i r') ∧ Kept (fun y=>y = (s.row n).1) w w'):=by
 refine cH (S:=(fun _=>False)) (n:=107) Tryz.func18 (MemOk.start (bk:=[⟨s.sb,54,false,s.cells⟩]) (wn:=[]) (fun b hb=>by obtain rfl:=List.mem_singleton.1 hb; exact hA.sim) (fun b hb hr=>by obtain rfl:=List.mem_singleton.1 hb; cases hr) (by simp) (by simp)) ?_
 have hgs:=hA.sim.lt
 have hrl:=(hA.rcd n hn).own _ ⟨_,rfl,rfl⟩
 have hrty:TyIn w 61 (s.row n).1:=(hA.rcd n hn).ty _ ⟨_,rfl,rfl⟩
 have hol:=hA.rws.own _ ⟨_,rfl,rfl⟩
 have hrl1:(s.row n).1 < w.heap.size:=hrl.2
 have hol1:s.gO < w.heap.size:=hol.2
 have hri:(s.recL n)[i]? = some r:=by rw [SimM.recL,List.getElem?_map,List.getElem?_range hi]; exact congrArg some hr
 have hln:(s.recL n).length = s.S:=by simp [SimM.recL]
 refine hgE 40 (dz 19 0x1011801a00380001021800100180010118000103180000) [0,5,6,7,8] [fF,oE (((n:Int) == 100) = false) (beq_eq_false_iff_ne.2 (by omega))] [(w.heap.size,3,1),(w.heap.size,1,1),(w.heap.size,0,1),(w.heap.size,2,1),(w.heap.size + 2,0,26),(w.heap.size,1,1)] [.code [1,1,1,1,0,0],.code [1,1,1,1,0,1],.code [1,1,1,1,1]] ⟨[(0,(pt s.sb 0)),(5,(pt w.heap.size 0)),(6,(pt (w.heap.size + 1) 0)),(7,.bool false),(8,(pt (w.heap.size + 2) 0))],(sna_b1 s frm id q n i w),[],w.heap.size + 3⟩ ?_
 refine holds_quietG _ _ (by kernel_rfl) (by kernel_rfl) (by kernel_rfl) (sna_q2 s frm id q n i w) ⟨decide_eq_false (by omega),decide_eq_false (by omega),decide_eq_false (by omega),decide_eq_false (by omega),decide_eq_false (by omega),decide_eq_false (by omega),decide_eq_false (by omega),decide_eq_false (by omega),decide_eq_false (by omega),decide_eq_false (by omega),decide_eq_false (by omega),decide_eq_false (by omega),decide_eq_false (by omega),decide_eq_false (by omega),decide_eq_false (by omega),decide_eq_false (by omega),decide_eq_false (by omega),decide_eq_false (by omega),decide_eq_false (by omega),decide_eq_false (by omega),decide_eq_false (by omega),decide_eq_false (by omega),decide_eq_false (by omega),decide_eq_false (by omega),trivial⟩ fun z2 hz2=>?_
 replace hz2:w.heap.size + 3 ≤ z2:=hz2
 refine hgE 6 [oh0] [0,5,6,7,8] [dF (((i:Int):Int) < 0)] [] [.code [1,1,1,1,1,0],.code [1,1,1,1,1,1]] ⟨[(0,(pt s.sb 0)),(5,(pt w.heap.size 0)),(6,(pt (w.heap.size + 1) 0)),(7,.bool false),(8,(pt (w.heap.size + 2) 0))],(sna_b1 s frm id q n i w),[],z2⟩ ?_
 have hne:(s.row n).1 ≠ s.sb:=fun e=>absurd (tyIn_one hrty (e ▸ blk_ty hA.sim)) (by decide)
 have hrb:(s.row n).1 < b:=hA.low.2.2.2.2.2.2 n hn
 have sna_y4_X:StayY w (fun y=>y = (s.row n).1) (sna_y4m s frm id q sy n i w) (sna_y4X s b r' n i):=by
  intro c_ d wx w' bk hb hm hx hk
  match c_,hb,hx with
  | 0,hb,hx=>
   obtain rfl:=Option.some.inj hb
   exact hx.kept hk (fun y ⟨b_,hb,hr,he⟩=>by simp at hb; rcases hb with rfl | rfl | rfl | rfl <;> simp at hr he <;> exact .inl (by omega))
  | 1,hb,hx=>
   obtain rfl:=Option.some.inj hb
   exact hx.kept hk (fun y ⟨b_,hb,hr,he⟩=>by simp at hb; rcases hb with rfl | rfl | rfl | rfl <;> simp at hr he <;> exact .inl (by omega))
  | 2,hb,hx=>
   obtain rfl:=Option.some.inj hb
   exact hx.kept hk (fun y ⟨b_,hb,hr,he⟩=>by simp at hb; rcases hb with rfl | rfl | rfl | rfl <;> simp at hr he <;> exact .inl (by omega))
  | c_ + 3,hb,hx=>exact trivial
 have sna_y4_c7:sna_y4C s b frm id q r r' sy n i w z2 7:=certY_opR (B:=0) (x:=fun d=>Instr.loadAt 83 (.pointer (some ⟨s.gO,0 + n * 1,none⟩))) (fun d=>.slice (some ⟨(s.row n).1,0,none⟩) s.S ((s.row n).2)) (by kernel_rfl) (.inr ⟨31,by kernel_rfl,List.mem_of_getElem? (i:=10) (by kernel_rfl)⟩) (fun d=>by kernel_rfl) (fun d=>by kernel_rfl) (fun d=>by kernel_rfl) (fun d=>by kernel_rfl) (fun c_ d wx bk hc hb hm hx=>by
   obtain rfl:c_ = 0:=by omega
   exact run_load1 (by kernel_rfl) (own_elem (f:=s.rowV) (fun _=>rfl) hx.rws (by rw [List.getElem?_range hn]) 0 _ rfl))
 have sna_y4_c18:sna_y4C s b frm id q r r' sy n i w z2 18:=certY_opR (B:=0) (x:=fun d=>Instr.loadAt 83 (.pointer (some ⟨s.gO,0 + n * 1,none⟩))) (fun d=>.slice (some ⟨(s.row n).1,0,none⟩) s.S ((s.row n).2)) (by kernel_rfl) (.inr ⟨31,by kernel_rfl,List.mem_of_getElem? (i:=21) (by kernel_rfl)⟩) (fun d=>by kernel_rfl) (fun d=>by kernel_rfl) (fun d=>by kernel_rfl) (fun d=>by kernel_rfl) (fun c_ d wx bk hc hb hm hx=>by
   obtain rfl:c_ = 0:=by omega
   exact run_load1 (by kernel_rfl) (own_elem (f:=s.rowV) (fun _=>rfl) hx.rws (by rw [List.getElem?_range hn]) 0 _ rfl))
 have sna_y4_c23:sna_y4C s b frm id q r r' sy n i w z2 23:=certY_opR (B:=0) (x:=fun d=>Instr.loadAt 61 (.pointer (some ⟨(s.row n).1,0 + i * 10,none⟩))) (fun d=>.agg (List.toArray (sna_v4 r))) (by kernel_rfl) (.inr ⟨31,by kernel_rfl,List.mem_of_getElem? (i:=26) (by kernel_rfl)⟩) (fun d=>by kernel_rfl) (fun d=>by kernel_rfl) (fun d=>by kernel_rfl) (fun d=>by kernel_rfl) (fun c_ d wx bk hc hb hm hx=>by
   obtain rfl:c_ = 0:=by omega
   exact run_loadSC (vs:=RecM.cells r) (by kernel_rfl) (by kernel_rfl) (own_elem rec_len (hx.rcd n hn) hri))
 have sna_y4_c26:sna_y4C s b frm id q r r' sy n i w z2 26:=certY_call (B:=2) (f:=40) (args:=fun d=>[.agg (List.toArray (sna_v4 r)),.agg (List.toArray (sna_v5 q i))]) (ob:=fun d=>[]) (fun d=>.tuple #[.agg (List.toArray (sna_v6 r')),.agg (List.toArray (sna_v7 sy))]) (by kernel_rfl) (.inl rfl) (fun d=>by kernel_rfl) (fun d=>by kernel_rfl) (fun d=>by kernel_rfl) (fun d=>trivial) (fun c_ d wx bk hc hb hm hx=>hap wx) sna_y4_X
 have sna_y4_c31:sna_y4C s b frm id q r r' sy n i w z2 31:=cyS (s:=0) (x:=fun d=>Instr.storeAt 61 (.pointer (some ⟨(s.row n).1,0 + i * 10,none⟩)) (.agg (List.toArray (sna_v6 r')))) (fun (d:Unit) (_:Unit)=>d) (fun d wx bk hb hm hx hcame=>by
  obtain rfl:=Option.some.inj hb
  obtain ⟨w',h1,h2,h3,h5⟩:=own_storeG (P:=Tryz.prog) (t:=61) (v:=.agg (List.toArray (sna_v6 r'))) (0 + i * 10) 10 (hx.rcd n hn) rfl (by omega) (by kernel_rfl) (ones_all rfl)
  rw [show (0 + i * 10) = i * 10 by omega,show (.agg (List.toArray (sna_v6 r')):Value).cells.toList = RecM.cells r' from rfl,flatV_put rec_len (by omega)] at h2
  have h4:Kept (fun y=>y = (s.row n).1) wx w':=h3.mono (fun y _ hy=>ownS_some y hy)
  exact ⟨(),w',h1,rfl,hx.setR hn h4 h2,hm.offA (fun _ h=>h) h4 (fun y hy=>.inl hy) (fun b_ hb hy=>by simp at hb; rcases hb with rfl | rfl | rfl | rfl <;> simp only at hy <;> first | exact hne hy.symm | omega),Nat.le_of_eq h5.symm⟩)
 have sna_y4_c33:sna_y4C s b frm id q r r' sy n i w z2 33:=cyS (s:=1) (x:=fun d=>Instr.storeAt 63 ((pt (w.heap.size + 2) 13)) (.agg (List.toArray (sna_v7 sy)))) (fun (d:Unit) (_:Unit)=>d) (fun d wx bk hb hm hx hcame=>by
  obtain rfl:=Option.some.inj hb
  obtain ⟨w',h1,hB1,hk1,hz1⟩:=store_to (P:=Tryz.prog) (t:=63) (v:=.agg (List.toArray (sna_v7 sy))) (by kernel_rfl) (hm.at_ 3 rfl) rfl (by show 13 + 13 ≤ 26; omega) (ones_all rfl) rfl
  exact ⟨(),w',h1,rfl,hx.kept hk1 (fun y hy=>.inl (by dsimp only at hy; omega)),(hm.set1 3 rfl rfl hk1 hB1).2,Nat.le_of_eq hz1.symm⟩)
 have sna_y4_R:∀ e_ ∈ (rZsY 2 [0,1,2,4,8,9,11,12,13,15,19,20,24,27,28,29,32] ++ [rY 3 2 0 2 1 s.sb,rY 5 2 1 1 1 w.heap.size,⟨6,2,oh2,fun _=>[oE ((0:Int) ≤ (n:Int) ∧ (n:Int) < ((s.N:Nat):Int))],fun _=>[]⟩,rY 10 2 1 5 1 w.heap.size,rY 14 2 0 2 1 s.sb,rY 16 2 1 1 1 w.heap.size,⟨17,2,oh2,fun _=>[oE ((0:Int) ≤ (n:Int) ∧ (n:Int) < ((s.N:Nat):Int))],fun _=>[]⟩,rY 21 2 1 5 1 w.heap.size,⟨22,2,oh2,fun _=>[oE ((0:Int) ≤ (i:Int) ∧ (i:Int) < ((s.S:Nat):Int))],fun _=>[]⟩,rY 25 2 1 4 9 w.heap.size,⟨30,2,oh2,fun _=>[oE ((0:Int) ≤ (i:Int) ∧ (i:Int) < ((s.S:Nat):Int))],fun _=>[]⟩]:List (RegY (Unit))),sna_y4C s b frm id q r r' sy n i w z2 e_.i:=certsY_reg _ sna_y4_X (fun d=>by kernel_rfl) (by kernel_rfl) (fun d sz=>by kernel_rfl)
 have sna_y4_A:∀ i_,i_ < 34 → sna_y4C s b frm id q r r' sy n i w z2 i_:=allY (l:=[7,18,23,26,31,33]) (by kernel_rfl) sna_y4_R ⟨sna_y4_c7,sna_y4_c18,sna_y4_c23,sna_y4_c26,sna_y4_c31,sna_y4_c33,trivial⟩
 refine holds_mixY (Δ:=Unit) (fun y=>y = (s.row n).1) (sna_y4v s q r r' sy n i w) sna_y4F (sna_y4m s frm id q sy n i w) (sna_y4X s b r' n i) [6,7,8] (fun d=>[(6,(pt (w.heap.size + 1) 0)),(7,.bool false),(8,(pt (w.heap.size + 2) 0))]) (fun d=>(sna_b2 s frm id q sy n i w)) () (fun _ h=>h.elim) (by kernel_rfl) (by kernel_rfl) (by kernel_rfl) (fun wx hm=>hA.kept hm.kept.drew (fun _ h=>h.elim)) (by kernel_rfl) sna_y4_A (fun d=>by kernel_rfl) (fun d=>by kernel_rfl) (fun d W1 hfin hX1 hz1 hm1=>?_)
 refine hgS 9 (dz 3 0x1a00281a0038) [6,7] [] [(w.heap.size + 2,0,26),(w.heap.size + 1,0,26)] [.code [1,1,1,1,1,1,1]] [⟨s.sb,54,false,s.cells⟩,⟨w.heap.size,65,true,(sna_v1 frm id q n i)⟩,⟨w.heap.size + 1,65,true,(sna_v8 frm id sy n)⟩,⟨w.heap.size + 2,65,true,(sna_v8 frm id sy n)⟩] [] W1.heap.size ?_
 refine hrt [[⟨false,2,0,26⟩]] [.agg (List.toArray (sna_v8 frm id sy n)),.bool true] [(w.heap.size + 1,0,26)] ?_
 intro wx hm
 exact ⟨rfl,hX1.kept hm.kept (fun y ⟨b_,hb,hr,he⟩=>by simp at hb; rcases hb with rfl | rfl | rfl | rfl <;> simp at hr he <;> exact .inl (by omega)),(MemOk.bck hm1 hm).kept⟩
end Go.Proofs.YtcmpkkapkdlfhaaGreat
