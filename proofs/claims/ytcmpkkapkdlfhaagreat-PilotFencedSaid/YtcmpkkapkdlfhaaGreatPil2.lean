import Derived.Test.YtcmpkkapkdlfhaaGreatPlan17
import Derived.Test.YtcmpkkapkdlfhaaGreatAnswer14
namespace Go.Proofs.YtcmpkkapkdlfhaaGreat
open Go.RowKit
def PartyX (tC tO:TypeId) (w:World) (base cb:Nat) (c:CM):Prop:=OkC c ∧ CallAt tC tO w base cb c
def PartyTX (tO:TypeId) (base cb:Nat) (w:World) (y:Nat):Prop:=y = cb ∨ (base ≤ y ∧ TysIn [tO] w y)
theorem partyX_T {tO:TypeId} {w:World} {base cb:Nat} {A:Option Addr} {n cp:Nat} {cs':List Value} (h4:OwnR w base tO 13 A n cp cs'):∀ y,y = cb ∨ ownS A y → PartyTX tO base cb w y:=by
 rintro y (rfl | h)
 ·exact .inl rfl
 ·exact .inr ⟨(h4.own y h).1,tO,by simp,h4.ty y h⟩
theorem PartyX.kept {tC tO:TypeId} {w w':World} {base cb:Nat} {c:CM} {T:Nat → Prop} (h:PartyX tC tO w base cb c) (hk:Kept T w w') (hcb:¬ T cb) (hT:∀ y,T y → base ≤ y → ¬ TyIn w tO y):PartyX tC tO w' base cb c:=by
 obtain ⟨h2,A,cp,h3,h4⟩:=h
 exact ⟨h2,A,cp,h3.kept hk hcb,h4.kept hk (fun y hy ht=>hT y ht (h4.own y hy).1 (h4.ty y hy))⟩
theorem PartyX.keptT {tC tO:TypeId} {w w':World} {base cb:Nat} {c:CM} {T:Nat → Prop} {es:List TypeId} (h:PartyX tC tO w base cb c) (hk:Kept T w w') (hT:∀ y,T y → TysIn es w y) (hn:es.contains tC = false) (hn':es.contains tO = false):PartyX tC tO w' base cb c:=by
 obtain ⟨h2,A,cp,h3,h4⟩:=h
 exact ⟨h2,A,cp,h3.kept hk (fun ht=>tysIn_not hn (blk_ty h3) (hT _ ht)),h4.keptT hk hT hn'⟩
theorem PartyX.blk {tC tO:TypeId} {w:World} {base cb:Nat} {c:CM} (h:PartyX tC tO w base cb c):TyIn w tC cb:=by
 obtain ⟨_,A,cp,h3,_⟩:=h
 exact blk_ty h3
def PilT (es:List TypeId) (base lb pb cb:Nat) (w:World) (y:Nat):Prop:=y = pb ∨ y = cb ∨ (base ≤ y ∧ TysIn es w y) ∨ (lb ≤ y ∧ TyIn w 65 y)
theorem pilT_in {es es':List TypeId} {base lb pb cb:Nat} {w wx:World} (hk:Kept (PilT es base lb pb cb w) w wx) {y:Nat} (hb:base ≤ y) (ht:TysIn es' wx y) (he:es'.all es.contains = true):PilT es base lb pb cb w y ∨ w.heap.size ≤ y:=by
 by_cases h1:y < w.heap.size
 ·by_cases h2:PilT es base lb pb cb w y
  ·exact .inl h2
  ·obtain ⟨e,he1,cur,fz,hc⟩:=ht
   rw [hk.block y h1 h2] at hc
   refine absurd (.inr (.inr (.inl ⟨hb,e,?_,cur,fz,hc⟩))) h2
   have h3:=List.all_eq_true.1 he e (by simpa using he1)
   simpa using h3
 ·exact .inr (by omega)
theorem pilT_inS {es es':List TypeId} {base lb pb cb:Nat} {w wx:World} {S:Nat → Prop} (hS:∀ y,PilT es base lb pb cb w y → S y) (hk:Kept S w wx) {y:Nat} (hb:base ≤ y) (ht:TysIn es' wx y) (he:es'.all es.contains = true):S y ∨ w.heap.size ≤ y:=by
 by_cases h1:y < w.heap.size
 ·by_cases h2:S y
  ·exact .inl h2
  ·obtain ⟨e,he1,cur,fz,hc⟩:=ht
   rw [hk.block y h1 h2] at hc
   refine .inl (hS y (.inr (.inr (.inl ⟨hb,e,?_,cur,fz,hc⟩))))
   have h3:=List.all_eq_true.1 he e (by simpa using he1)
   simpa using h3
 ·exact .inr (by omega)
theorem pilT_inL {es:List TypeId} {base lb pb cb:Nat} {w wx:World} {S:Nat → Prop} (hS:∀ y,PilT es base lb pb cb w y → S y) (hk:Kept S w wx) {y:Nat} (hb:lb ≤ y) (ht:TyIn wx 65 y):S y ∨ w.heap.size ≤ y:=by
 by_cases h1:y < w.heap.size
 ·by_cases h2:S y
  ·exact .inl h2
  ·obtain ⟨cur,fz,hc⟩:=ht
   rw [hk.block y h1 h2] at hc
   exact .inl (hS y (.inr (.inr (.inr ⟨hb,cur,fz,hc⟩))))
 ·exact .inr (by omega)
theorem pilT_upS {es es':List TypeId} {base lb pb cb:Nat} {w wx:World} {S:Nat → Prop} (hS:∀ y,PilT es base lb pb cb w y → S y) (hk:Kept S w wx) (he:es'.all es.contains = true):∀ y,PilT es' base lb pb cb wx y → S y ∨ w.heap.size ≤ y:=by
 rintro y (h | h | ⟨hb,ht⟩ | ⟨hb,ht⟩)
 ·exact .inl (hS _ (.inl h))
 ·exact .inl (hS _ (.inr (.inl h)))
 ·exact pilT_inS hS hk hb ht he
 ·exact pilT_inL hS hk hb ht
theorem ty_off {w:World} {e e':TypeId} {y g:Nat} (h:TyIn w e y) (he:g = y) (h':TyIn w e' g) (hn:Nat.beq e e' = false):False:=by
 subst he
 exact Nat.ne_of_beq_eq_false hn (tyIn_one h h')
theorem PilT.mono {es es':List TypeId} {base lb pb cb:Nat} {w:World} {y:Nat} (h:PilT es base lb pb cb w y) (he:es.all es'.contains = true):PilT es' base lb pb cb w y:=by
 rcases h with h | h | ⟨h1,e,h2,h3⟩ | h
 ·exact .inl h
 ·exact .inr (.inl h)
 ·refine .inr (.inr (.inl ⟨h1,e,?_,h3⟩))
  have h4:=List.all_eq_true.1 he e (by simpa using h2)
  simpa using h4
 ·exact .inr (.inr (.inr h))
theorem new_partyX (frm k:Int) (w:World):Calls Tryz.prog 27 #[i6 frm,i6 k] w (fun e w'=>∃ cb,e = .returned (.pointer (some ⟨cb,0,none⟩)) ∧ w.heap.size ≤ cb ∧ Blk w' cb 124 [i6 frm,i6 (within14 k),.slice none 0 0] ∧ Kept (fun _=>False) w w'):=callNew_any frm k w
theorem ask_partyX {w:World} {base cb:Nat} {c:CM} (now to_:Int) (q:AskM) (h:PartyX 124 141 w base cb c) (hb:base ≤ w.heap.size) (hok:c.opn.length < 8 ∧ c.last < 1099511627776 ∧ 0 ≤ to_ ∧ to_ < 202) :
  Calls Tryz.prog 91 #[.pointer (some ⟨cb,0,none⟩),i6 now,i6 to_,.agg #[i6 q.kind,i6 q.stripe,i6 q.epoch,i6 q.seq,i6 q.mask,i6 q.node,i6 q.oe,i6 q.os,sT q.block]] w (fun e w'=>e = .returned (.tuple #[.agg #[i6 c.frm,i6 to_,i6 (c.last + 1),.bool false,i6 q.kind,i6 q.stripe,i6 q.epoch,i6 q.seq,i6 q.mask,i6 q.node,i6 q.oe,i6 q.os,sT q.block,i6 0,i6 0,i6 0,.bool false,i6 0,i6 0,i6 0,sT ⟨#[]⟩,.bool false,i6 0,i6 0,i6 0,sT ⟨#[]⟩],.bool true]) ∧ PartyX 124 141 w' base cb (askC c now to_ q) ∧ Kept (PartyTX 141 base cb w) w w'):=by
 obtain ⟨h2,A,cp,h3,h4⟩:=h
 have hne:¬ ownS A cb:=fun hx=>absurd (tyIn_one (h4.ty cb hx) (blk_ty h3)) (by decide)
 refine (ask_ok c.frm c.last now to_ A c.opn.length cp cb base q c.opn rfl hok h2.last w h3 h4 hb hne).mono fun e w' he=>?_
 obtain ⟨A',cp',e1,e2,e3,_,e5⟩:=he
 refine ⟨e1,⟨askC_ok h2 hok.1,A',cp',?_,?_⟩,e5.mono (fun y _ hy=>partyX_T h4 y hy)⟩
 ·simpa [askC] using e2
 ·simpa [askC] using e3
theorem drop_partyX {w:World} {base cb:Nat} {c:CM} (h:PartyX 124 141 w base cb c) :
  Calls Tryz.prog 79 #[.pointer (some ⟨cb,0,none⟩)] w (fun e w'=>e = .returned (.tuple #[]) ∧ (∀ base',PartyX 124 141 w' base' cb { c with opn:=[] }) ∧ Kept (fun y=>y = cb) w w'):=by
 obtain ⟨h2,A,cp,h3,h4⟩:=h
 refine (drop_any c.frm c.last A c.opn.length cp cb w h3).mono fun e w' he=>?_
 obtain ⟨e1,e2,e3⟩:=he
 exact ⟨e1,fun base'=>⟨⟨by simp,h2.last,fun o ho=>(by cases ho),fun o ho=>(by cases ho)⟩,none,0,e2,OwnR.nil _ _ _ _⟩,e3⟩
theorem open_partyX {w:World} {base cb:Nat} {c:CM} (h:PartyX 124 141 w base cb c):Calls Tryz.prog 36 #[.pointer (some ⟨cb,0,none⟩)] w (RetK (i6 (c.opn.length:Int)) w):=by
 obtain ⟨h2,A,cp,h3,h4⟩:=h
 exact open14_any c.frm c.last A c.opn.length cp cb w h3
theorem hit_partyX {sy:SayR} {w:World} {base cb:Nat} {c:CM} {Kp R:List OneM} {o:OneM} (h:PartyX 124 141 w base cb c) (hc:c.opn = Kp ++ o :: R) (hK:∀ o' ∈ Kp,o'.id ≠ o.id) :
  Calls Tryz.prog 42 #[.pointer (some ⟨cb,0,none⟩),.agg #[i6 o.to,i6 c.frm,i6 o.id,.bool true,i6 0,i6 0,i6 0,i6 0,i6 0,i6 0,i6 0,i6 0,sT ⟨#[]⟩,i6 sy.st,i6 sy.ep,i6 sy.ou,.bool sy.rc.used,i6 sy.rc.fence,i6 sy.rc.de,i6 sy.rc.ds,sT sy.rc.block,.bool sy.rc.op,i6 sy.rc.ie,i6 sy.rc.is,i6 sy.rc.mask,sT sy.rc.staged]] w (fun e w'=>e = .returned (.tuple #[.agg #[i6 o.q.kind,i6 o.q.stripe,i6 o.q.epoch,i6 o.q.seq,i6 o.q.mask,i6 o.q.node,i6 o.q.oe,i6 o.q.os,sT o.q.block],.bool true]) ∧ PartyX 124 141 w' base cb { c with opn:=Kp ++ R } ∧ Kept (PartyTX 141 base cb w) w w'):=by
 obtain ⟨h2,A,cp,h3,h4⟩:=h
 have hh:=hit_at (lf:=o.to) (lid:=o.id) (R:=R) rfl rfl hK
 refine (answer_any c.frm c.last o.to o.id A c.opn.length cp cb base c.opn rfl (by have:=h2.few; omega) w h3 h4).mono fun e w' he=>?_
 rcases he with ⟨_,g2,_⟩ | ⟨x,o',⟨g1,g2,g3⟩,e2,e3,e4,e5⟩
 ·rw [hc] at g2
  exact absurd g2 hh.2
 ·rw [hc] at g1 g3
  obtain ⟨hx,ho⟩:=hh.1 x o' g1 g2 g3
  have hx2:=(List.getElem?_eq_some_iff.1 (hc ▸ g1)).1
  have hle:(c.opn.eraseIdx x).length = c.opn.length - 1:=by rw [List.length_eraseIdx,if_pos hx2]
  have hee:c.opn.eraseIdx x = Kp ++ R:=by rw [hc,hx,erase_at]
  subst ho
  rw [← hee]
  exact ⟨e2,⟨erase_ok h2,A,cp,by simp only [hle]; exact e3,by simp only [hle]; exact e4⟩,e5.mono (fun y _ hy=>partyX_T h4 y hy)⟩
end Go.Proofs.YtcmpkkapkdlfhaaGreat
namespace Go.Proofs.YtcmpkkapkdlfhaaGreat
open Go.RowKit
set_option maxHeartbeats 4000000
set_option maxRecDepth 100000
theorem pwithin_any (now:Int) (w:World) :
  Calls Tryz.prog 31 #[i6 now] w (RetK (i6 (within14 now)) w):=by
 refine cH (S:=(fun _=>False)) (n:=6) Tryz.func31 (MemOk.none w _) ?_
 refine hgS 14 (dz 5 8704) [2] [vV,vV] [] [.code [1,1]] [] [] w.heap.size ?_
 refine hrt [] [i6 (minZ (maxZ now 0) 1099511627776)] [] ?_
 intro wx hm
 exact ⟨rfl,hm.kept⟩
theorem pil_busy (x:PilC) (pb:Nat) (w:World) (hP:Blk w pb 98 (PilC.cells x)) :
  Calls Tryz.prog 15 #[.pointer (some ⟨pb,0,none⟩)] w (RetK (.bool x.busy) w):=by
 refine cH (S:=(fun _=>False)) (n:=7) Tryz.func15 (MemOk.start (bk:=[⟨pb,98,false,(PilC.cells x)⟩]) (wn:=[]) (fun b hb=>by obtain rfl:=List.mem_singleton.1 hb; exact hP) (fun b hb _=>by obtain rfl:=List.mem_singleton.1 hb; cases ‹_›) (by simp) (by simp)) ?_
 refine hgS 15 (dz 6 5016911872) [2] [] [(pb,43,1)] [.code [1,1]] [⟨pb,98,false,(PilC.cells x)⟩] [] w.heap.size ?_
 refine hrt [] [.bool x.busy] [] ?_
 intro wx hm
 exact ⟨rfl,hm.kept⟩
theorem pla_q2 (x:PilC) (pb:Nat) (w:World):Out.prune [2,3,4] (qListG Tryz.prog 17 w (fun _=>False) (opsOf (getCode (bodyOf Tryz.f20) [1,0])) (opsOf (getCode (bodyOf Tryz.f20) [1,0])).toList ⟨[(0,(pt pb 0)),(2,i6 0),(3,sT ⟨#[]⟩),(4,i6 0)],[⟨pb,98,false,(PilC.cells x)⟩],[],w.heap.size⟩ [(false,.op oh0),(false,.op oh0),(false,.op oh0),(false,.op (oA 0 70 1)),(false,.op oh0),(false,.op oh0),(false,.op oh0),(false,.op (oA 0 71 1)),(false,.op oh0),(false,.op oh0),(false,.op oh0),(false,.op (oA 0 72 1)),(false,.op oh0),(false,.op oh0),(false,.op oh0)]) = some ⟨[],dupR [(pb,70,1),(pb,71,1),(pb,72,1)],⟨[(2,i6 x.er),(3,sT x.dt),(4,i6 x.ed)],[⟨pb,98,false,(PilC.cells x)⟩],[],w.heap.size⟩⟩:=by kernel_rfl
theorem pil_last (x:PilC) (pb:Nat) (w:World) (hP:Blk w pb 98 (PilC.cells x)) :
  Calls Tryz.prog 20 #[.pointer (some ⟨pb,0,none⟩)] w (RetK (.tuple #[i6 x.er,sT x.dt,i6 x.ed]) w):=by
 refine cH (S:=(fun _=>False)) (n:=17) Tryz.func20 (MemOk.start (bk:=[⟨pb,98,false,(PilC.cells x)⟩]) (wn:=[]) (fun b hb=>by obtain rfl:=List.mem_singleton.1 hb; exact hP) (fun b hb _=>by obtain rfl:=List.mem_singleton.1 hb; cases ‹_›) (by simp) (by simp)) ?_
 refine hgE 10 (dz 3 0) [0,2,3,4] [] [] [.code [1,0],.code [1,1]] ⟨[(0,(pt pb 0)),(2,i6 0),(3,sT ⟨#[]⟩),(4,i6 0)],[⟨pb,98,false,(PilC.cells x)⟩],[],w.heap.size⟩ ?_
 refine holds_quietG _ _ (by kernel_rfl) (by kernel_rfl) (by kernel_rfl) (pla_q2 x pb w) trivial fun z2 hz2=>?_
 replace hz2:w.heap.size ≤ z2:=hz2
 refine hgS 3 [] [2,3,4] [] [] [.code [1,1]] [⟨pb,98,false,(PilC.cells x)⟩] [] z2 ?_
 refine hrt [] [i6 x.er,sT x.dt,i6 x.ed] [] ?_
 intro wx hm
 exact ⟨rfl,hm.kept⟩
theorem pnd_q2 (x:PilC) (pb:Nat) (w:World) (k:Int):Out.prune [4] (qListG Tryz.prog 16 w (fun _=>False) (opsOf (getCode (bodyOf Tryz.f81) [1,0])) (opsOf (getCode (bodyOf Tryz.f81) [1,0])).toList ⟨[(0,(pt pb 0)),(1,i6 k),(4,i6 0)],[⟨pb,98,false,(PilC.cells x)⟩],[],w.heap.size⟩ [(false,.op oh0),(false,.op oh0),(false,.op oh0),(false,.op (oA 0 0 2)),(false,.op oh0),(false,.op oh0),(false,.op oh0),(false,.op oh0),(false,.op (oA 0 47 1)),(false,.op oh0),(false,.call (i6 ((k + x.sn) % x.N))),(false,.op oh0)]) = some ⟨[∀ w',MemC w (fun _=>False) [⟨pb,98,false,(PilC.cells x)⟩] [] w.heap.size w' → Calls Tryz.prog 77 #[.agg #[i6 x.N,i6 x.S],i6 x.sn,i6 k] w' (RetK (i6 ((k + x.sn) % x.N)) w')],dupR [(pb,0,2),(pb,47,1)],⟨[(4,i6 ((k + x.sn) % x.N))],[⟨pb,98,false,(PilC.cells x)⟩],[],w.heap.size⟩⟩:=by kernel_rfl
theorem pil_node (x:PilC) (pb:Nat) (k:Int) (hg:3 ≤ x.N ∧ x.N ≤ 6 ∧ 1 ≤ x.S ∧ x.S ≤ 8) (hs:0 ≤ x.sn ∧ x.sn < x.S) (hk:0 ≤ k ∧ k < x.N) (w:World) (hP:Blk w pb 98 (PilC.cells x)) :
  Calls Tryz.prog 81 #[.pointer (some ⟨pb,0,none⟩),i6 k] w (RetK (i6 ((k + x.sn) % x.N)) w):=by
 refine cH (S:=(fun _=>False)) (n:=16) Tryz.func81 (MemOk.start (bk:=[⟨pb,98,false,(PilC.cells x)⟩]) (wn:=[]) (fun b hb=>by obtain rfl:=List.mem_singleton.1 hb; exact hP) (fun b hb _=>by obtain rfl:=List.mem_singleton.1 hb; cases ‹_›) (by simp) (by simp)) ?_
 refine hgE 8 [oh0] [0,1,4] [] [] [.code [1,0],.code [1,1]] ⟨[(0,(pt pb 0)),(1,i6 k),(4,i6 0)],[⟨pb,98,false,(PilC.cells x)⟩],[],w.heap.size⟩ ?_
 refine holds_quietG _ _ (by kernel_rfl) (by kernel_rfl) (by kernel_rfl) (pnd_q2 x pb w k) ⟨(fun wx hm=>plat_nodeOf x.N x.S x.sn k hg ⟨by omega,by omega,by omega,by omega⟩ wx),trivial⟩ fun z2 hz2=>?_
 replace hz2:w.heap.size ≤ z2:=hz2
 refine hgS 3 [] [4] [] [] [.code [1,1]] [⟨pb,98,false,(PilC.cells x)⟩] [] z2 ?_
 refine hrt [] [i6 ((k + x.sn) % x.N)] [] ?_
 intro wx hm
 exact ⟨rfl,hm.kept⟩
theorem pcl_q2 (x:PilC) (pb:Nat) (w:World) (k:Int):Out.prune [4] (qListG Tryz.prog 16 w (fun _=>False) (opsOf (getCode (bodyOf Tryz.f46) [1,0])) (opsOf (getCode (bodyOf Tryz.f46) [1,0])).toList ⟨[(0,(pt pb 0)),(1,i6 k),(4,i6 0)],[⟨pb,98,false,(PilC.cells x)⟩],[],w.heap.size⟩ [(false,.op oh0),(false,.op oh0),(false,.op oh0),(false,.op (oA 0 0 2)),(false,.op oh0),(false,.op oh0),(false,.op oh0),(false,.op oh0),(false,.op (oA 0 47 1)),(false,.op oh0),(false,.call (i6 ((k + x.N - x.sn % x.N) % x.N))),(false,.op oh0)]) = some ⟨[∀ w',MemC w (fun _=>False) [⟨pb,98,false,(PilC.cells x)⟩] [] w.heap.size w' → Calls Tryz.prog 78 #[.agg #[i6 x.N,i6 x.S],i6 x.sn,i6 k] w' (RetK (i6 ((k + x.N - x.sn % x.N) % x.N)) w')],dupR [(pb,0,2),(pb,47,1)],⟨[(4,i6 ((k + x.N - x.sn % x.N) % x.N))],[⟨pb,98,false,(PilC.cells x)⟩],[],w.heap.size⟩⟩:=by kernel_rfl
theorem pil_column (x:PilC) (pb:Nat) (k:Int) (hg:3 ≤ x.N ∧ x.N ≤ 6 ∧ 1 ≤ x.S ∧ x.S ≤ 8) (hs:0 ≤ x.sn ∧ x.sn < x.S) (hk:0 ≤ k ∧ k < x.N) (w:World) (hP:Blk w pb 98 (PilC.cells x)) :
  Calls Tryz.prog 46 #[.pointer (some ⟨pb,0,none⟩),i6 k] w (RetK (i6 ((k + x.N - x.sn % x.N) % x.N)) w):=by
 refine cH (S:=(fun _=>False)) (n:=16) Tryz.func46 (MemOk.start (bk:=[⟨pb,98,false,(PilC.cells x)⟩]) (wn:=[]) (fun b hb=>by obtain rfl:=List.mem_singleton.1 hb; exact hP) (fun b hb _=>by obtain rfl:=List.mem_singleton.1 hb; cases ‹_›) (by simp) (by simp)) ?_
 refine hgE 8 [oh0] [0,1,4] [] [] [.code [1,0],.code [1,1]] ⟨[(0,(pt pb 0)),(1,i6 k),(4,i6 0)],[⟨pb,98,false,(PilC.cells x)⟩],[],w.heap.size⟩ ?_
 refine holds_quietG _ _ (by kernel_rfl) (by kernel_rfl) (by kernel_rfl) (pcl_q2 x pb w k) ⟨(fun wx hm=>plat_columnOf x.N x.S x.sn k hg ⟨by omega,by omega,by omega,by omega⟩ wx),trivial⟩ fun z2 hz2=>?_
 replace hz2:w.heap.size ≤ z2:=hz2
 refine hgS 3 [] [4] [] [] [.code [1,1]] [⟨pb,98,false,(PilC.cells x)⟩] [] z2 ?_
 refine hrt [] [i6 ((k + x.N - x.sn % x.N) % x.N)] [] ?_
 intro wx hm
 exact ⟨rfl,hm.kept⟩
theorem pcz_q2 (x:PilC) (pb:Nat) (w:World):Out.prune [4] (qListG Tryz.prog 16 w (fun _=>False) (opsOf (getCode (bodyOf Tryz.f46) [1,0])) (opsOf (getCode (bodyOf Tryz.f46) [1,0])).toList ⟨[(0,(pt pb 0)),(1,i6 (-1)),(4,i6 0)],[⟨pb,98,false,(PilC.cells x)⟩],[],w.heap.size⟩ [(false,.op oh0),(false,.op oh0),(false,.op oh0),(false,.op (oA 0 0 2)),(false,.op oh0),(false,.op oh0),(false,.op oh0),(false,.op oh0),(false,.op (oA 0 47 1)),(false,.op oh0),(false,.call (i6 (-1))),(false,.op oh0)]) = some ⟨[∀ w',MemC w (fun _=>False) [⟨pb,98,false,(PilC.cells x)⟩] [] w.heap.size w' → Calls Tryz.prog 78 #[.agg #[i6 x.N,i6 x.S],i6 x.sn,i6 (-1)] w' (RetK (i6 (-1)) w')],dupR [(pb,0,2),(pb,47,1)],⟨[(4,i6 (-1))],[⟨pb,98,false,(PilC.cells x)⟩],[],w.heap.size⟩⟩:=by kernel_rfl
theorem pil_columnNone (x:PilC) (pb:Nat) (hg:3 ≤ x.N ∧ x.N ≤ 6 ∧ 1 ≤ x.S ∧ x.S ≤ 8) (hs:0 ≤ x.sn ∧ x.sn < x.S) (w:World) (hP:Blk w pb 98 (PilC.cells x)) :
  Calls Tryz.prog 46 #[.pointer (some ⟨pb,0,none⟩),i6 (-1)] w (RetK (i6 (-1)) w):=by
 refine cH (S:=(fun _=>False)) (n:=16) Tryz.func46 (MemOk.start (bk:=[⟨pb,98,false,(PilC.cells x)⟩]) (wn:=[]) (fun b hb=>by obtain rfl:=List.mem_singleton.1 hb; exact hP) (fun b hb _=>by obtain rfl:=List.mem_singleton.1 hb; cases ‹_›) (by simp) (by simp)) ?_
 refine hgE 8 [oh0] [0,1,4] [] [] [.code [1,0],.code [1,1]] ⟨[(0,(pt pb 0)),(1,i6 (-1)),(4,i6 0)],[⟨pb,98,false,(PilC.cells x)⟩],[],w.heap.size⟩ ?_
 refine holds_quietG _ _ (by kernel_rfl) (by kernel_rfl) (by kernel_rfl) (pcz_q2 x pb w) ⟨(fun wx hm=>plat_columnNone x.N x.S x.sn (-1) hg ⟨by omega,by omega,by omega⟩ wx),trivial⟩ fun z2 hz2=>?_
 replace hz2:w.heap.size ≤ z2:=hz2
 refine hgS 3 [] [4] [] [] [.code [1,1]] [⟨pb,98,false,(PilC.cells x)⟩] [] z2 ?_
 refine hrt [] [i6 (-1)] [] ?_
 intro wx hm
 exact ⟨rfl,hm.kept⟩
theorem pil_enter (x:PilC) (c:CM) (pb base:Nat) (fr:Fn) (fa fb:Array Value) (w:World) (hP:Blk w pb 98 (PilC.cells x)) (hQ:PartyX 124 141 w base x.cb c) :
  Calls Tryz.prog 53 #[.pointer (some ⟨pb,0,none⟩),(.func fr fa fb)] w (fun e w'=>e = .returned (.tuple #[]) ∧ Blk w' pb 98 (PilC.cells { x with nx:=(.func fr fa fb),lg:=false }) ∧ (∀ base',PartyX 124 141 w' base' x.cb { c with opn:=[] }) ∧ Kept (fun y=>y = pb ∨ y = x.cb) w w'):=by
 refine cH (S:=(fun y=>y = pb)) (n:=18) Tryz.func53 (MemOk.start (bk:=[⟨pb,98,true,(PilC.cells x)⟩]) (wn:=[]) (fun b hb=>by obtain rfl:=List.mem_singleton.1 hb; exact hP) (fun b hb _=>by obtain rfl:=List.mem_singleton.1 hb; rfl) (by simp) (by simp)) ?_
 have hne:pb ≠ x.cb:=fun e=>absurd (tyIn_one (e ▸ blk_ty hP) hQ.blk) (by decide)
 refine hgS 9 (dz 4 270565376) [0,1,7] [] [(pb,2,1)] [.ops [0] [4],.code [1]] [⟨pb,98,true,(PilC.cells x)⟩] [] w.heap.size ?_
 refine hcV (w:=w) (S':=(fun y=>y = pb ∨ y = x.cb)) (Y:=Unit) (fun _=>.tuple #[]) (fun _=>[⟨pb,98,true,(PilC.cells x)⟩]) (fun _ W_=>∀ base',PartyX 124 141 W_ base' x.cb { c with opn:=[] }) (show _ = some (79,[(pt x.cb 0)],some 8,[]) by kernel_rfl) tI (fun wx hm=>?_) (fun y_ W1 hQ1 hm1=>?_)
 ·have hm0:=hm.wide (S':=(fun y=>y = pb ∨ y = x.cb)) (fun _ h=>.inl h)
  refine (drop_partyX (hQ.keptT (es:=[98]) hm.kept (fun y hy=>by subst hy; exact ⟨98,by simp,blk_ty hP⟩) rfl rfl)).mono fun e w' hq=>?_
  obtain ⟨h1,h2,h3⟩:=hq
  exact ⟨(),h1,h2,hm0.offA (fun _ h=>h) h3 (fun y hy=>.inl (.inr hy)) (fun b hb hy=>by obtain rfl:=List.mem_singleton.1 hb; exact hne hy)⟩
 refine hgE 17 (dz 11 0x13208000013108000000) [] [] [(pb,49,1),(pb,50,1)] [] ⟨[],[⟨pb,98,true,(PilC.cells { x with nx:=(.func fr fa fb),lg:=false })⟩],[],W1.heap.size⟩ ?_
 refine holds_end [] (show _ = some ([],dupR []) by kernel_rfl) ?_
 intro wx hm
 exact ⟨rfl,hm.at_ 0 rfl,fun base'=>(hQ1 base').keptT hm.kept (turned_tys hm1) rfl rfl,(MemOk.bck hm1 hm).kept⟩
theorem pil_enterNil (x:PilC) (c:CM) (pb base:Nat) (w:World) (hP:Blk w pb 98 (PilC.cells x)) (hQ:PartyX 124 141 w base x.cb c) :
  Calls Tryz.prog 53 #[.pointer (some ⟨pb,0,none⟩),.nilFunc] w (fun e w'=>e = .returned (.tuple #[]) ∧ Blk w' pb 98 (PilC.cells { x with nx:=.nilFunc,lg:=false }) ∧ (∀ base',PartyX 124 141 w' base' x.cb { c with opn:=[] }) ∧ Kept (fun y=>y = pb ∨ y = x.cb) w w'):=by
 refine cH (S:=(fun y=>y = pb)) (n:=18) Tryz.func53 (MemOk.start (bk:=[⟨pb,98,true,(PilC.cells x)⟩]) (wn:=[]) (fun b hb=>by obtain rfl:=List.mem_singleton.1 hb; exact hP) (fun b hb _=>by obtain rfl:=List.mem_singleton.1 hb; rfl) (by simp) (by simp)) ?_
 have hne:pb ≠ x.cb:=fun e=>absurd (tyIn_one (e ▸ blk_ty hP) hQ.blk) (by decide)
 refine hgS 9 (dz 4 270565376) [0,1,7] [] [(pb,2,1)] [.ops [0] [4],.code [1]] [⟨pb,98,true,(PilC.cells x)⟩] [] w.heap.size ?_
 refine hcV (w:=w) (S':=(fun y=>y = pb ∨ y = x.cb)) (Y:=Unit) (fun _=>.tuple #[]) (fun _=>[⟨pb,98,true,(PilC.cells x)⟩]) (fun _ W_=>∀ base',PartyX 124 141 W_ base' x.cb { c with opn:=[] }) (show _ = some (79,[(pt x.cb 0)],some 8,[]) by kernel_rfl) tI (fun wx hm=>?_) (fun y_ W1 hQ1 hm1=>?_)
 ·have hm0:=hm.wide (S':=(fun y=>y = pb ∨ y = x.cb)) (fun _ h=>.inl h)
  refine (drop_partyX (hQ.keptT (es:=[98]) hm.kept (fun y hy=>by subst hy; exact ⟨98,by simp,blk_ty hP⟩) rfl rfl)).mono fun e w' hq=>?_
  obtain ⟨h1,h2,h3⟩:=hq
  exact ⟨(),h1,h2,hm0.offA (fun _ h=>h) h3 (fun y hy=>.inl (.inr hy)) (fun b hb hy=>by obtain rfl:=List.mem_singleton.1 hb; exact hne hy)⟩
 refine hgE 17 (dz 11 0x13208000013108000000) [] [] [(pb,49,1),(pb,50,1)] [] ⟨[],[⟨pb,98,true,(PilC.cells { x with nx:=.nilFunc,lg:=false })⟩],[],W1.heap.size⟩ ?_
 refine holds_end [] (show _ = some ([],dupR []) by kernel_rfl) ?_
 intro wx hm
 exact ⟨rfl,hm.at_ 0 rfl,fun base'=>(hQ1 base').keptT hm.kept (turned_tys hm1) rfl rfl,(MemOk.bck hm1 hm).kept⟩
end Go.Proofs.YtcmpkkapkdlfhaaGreat
