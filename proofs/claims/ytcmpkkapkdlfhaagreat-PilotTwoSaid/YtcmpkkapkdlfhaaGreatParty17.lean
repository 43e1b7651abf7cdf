import Derived.Test.YtcmpkkapkdlfhaaGreatAnswer14
namespace Go.Proofs.YtcmpkkapkdlfhaaGreat
open Go.RowKit
def PartyX(tC tO:TypeId)(w:World)(base cb:Nat)(c:CM):Prop:=OkC c∧CallAt tC tO w base cb c
def PartyTX(tO:TypeId)(base cb:Nat)(w:World)(y:Nat):Prop:=y=cb∨(base<=y∧TysIn [tO] w y)
theorem partyX_T{tO:TypeId}{w:World}{base cb:Nat}{A:Option Addr}{n cp:Nat}{cs':List Value}(h4:OwnR w base tO 13 A n cp cs'):∀y,y=cb∨ownS A y->PartyTX tO base cb w y:=by
 rintro y (rfl|h)
 ·exact .inl rfl
 ·exact .inr ⟨(h4.own y h).1,tO,by simp,h4.ty y h⟩
theorem PartyX.kept{tC tO:TypeId}{w w':World}{base cb:Nat}{c:CM}{T:Nat->Prop}(h:PartyX tC tO w base cb c)(hk:Kept T w w')(hcb:¬T cb)(hT:∀y,T y->base<=y->¬TyIn w tO y):PartyX tC tO w' base cb c:=by
 obtain⟨h2,A,cp,h3,h4⟩:=h
 exact⟨h2,A,cp,h3.kept hk hcb,h4.kept hk (fun y hy ht=>hT y ht (h4.own y hy).1 (h4.ty y hy))⟩
theorem PartyX.keptT{tC tO:TypeId}{w w':World}{base cb:Nat}{c:CM}{T:Nat->Prop}{es:List TypeId}(h:PartyX tC tO w base cb c)(hk:Kept T w w')(hT:∀y,T y->TysIn es w y)(hn:es.contains tC=false)(hn':es.contains tO=false):PartyX tC tO w' base cb c:=by
 obtain⟨h2,A,cp,h3,h4⟩:=h
 exact⟨h2,A,cp,h3.kept hk (fun ht=>tysIn_not hn (blk_ty h3) (hT _ ht)),h4.keptT hk hT hn'⟩
theorem PartyX.blk{tC tO:TypeId}{w:World}{base cb:Nat}{c:CM}(h:PartyX tC tO w base cb c):TyIn w tC cb:=by
 obtain⟨_,A,cp,h3,_⟩:=h
 exact blk_ty h3
def PilT(es:List TypeId)(base lb pb cb:Nat)(w:World)(y:Nat):Prop:=y=pb∨y=cb∨(base<=y∧TysIn es w y)∨(lb<=y∧TyIn w 65 y)
theorem pilT_in{es es':List TypeId}{base lb pb cb:Nat}{w wx:World}(hk:Kept (PilT es base lb pb cb w) w wx){y:Nat}(hb:base<=y)(ht:TysIn es' wx y)(he:es'.all es.contains=true):PilT es base lb pb cb w y∨w.heap.size<=y:=by
 by_cases h1:y<w.heap.size
 ·by_cases h2:PilT es base lb pb cb w y
  ·exact .inl h2
  ·obtain⟨e,he1,cur,fz,hc⟩:=ht
   rw[hk.block y h1 h2]at hc
   refine absurd (.inr (.inr (.inl ⟨hb,e,?_,cur,fz,hc⟩))) h2
   have h3:=List.all_eq_true.1 he e (by simpa using he1)
   simpa using h3
 ·exact .inr (by omega)
theorem pilT_inS{es es':List TypeId}{base lb pb cb:Nat}{w wx:World}{S:Nat->Prop}(hS:∀y,PilT es base lb pb cb w y->S y)(hk:Kept S w wx){y:Nat}(hb:base<=y)(ht:TysIn es' wx y)(he:es'.all es.contains=true):S y∨w.heap.size<=y:=by
 by_cases h1:y<w.heap.size
 ·by_cases h2:S y
  ·exact .inl h2
  ·obtain⟨e,he1,cur,fz,hc⟩:=ht
   rw[hk.block y h1 h2]at hc
   refine .inl (hS y (.inr (.inr (.inl ⟨hb,e,?_,cur,fz,hc⟩))))
   have h3:=List.all_eq_true.1 he e (by simpa using he1)
   simpa using h3
 ·exact .inr (by omega)
theorem pilT_inL{es:List TypeId}{base lb pb cb:Nat}{w wx:World}{S:Nat->Prop}(hS:∀y,PilT es base lb pb cb w y->S y)(hk:Kept S w wx){y:Nat}(hb:lb<=y)(ht:TyIn wx 65 y):S y∨w.heap.size<=y:=by
 by_cases h1:y<w.heap.size
 ·by_cases h2:S y
  ·exact .inl h2
  ·obtain⟨cur,fz,hc⟩:=ht
   rw[hk.block y h1 h2]at hc
   exact .inl (hS y (.inr (.inr (.inr ⟨hb,cur,fz,hc⟩))))
 ·exact .inr (by omega)
theorem pilT_upS{es es':List TypeId}{base lb pb cb:Nat}{w wx:World}{S:Nat->Prop}(hS:∀y,PilT es base lb pb cb w y->S y)(hk:Kept S w wx)(he:es'.all es.contains=true):∀y,PilT es' base lb pb cb wx y->S y∨w.heap.size<=y:=by
 rintro y (h|h|⟨hb,ht⟩|⟨hb,ht⟩)
 ·exact .inl (hS _ (.inl h))
 ·exact .inl (hS _ (.inr (.inl h)))
 ·exact pilT_inS hS hk hb ht he
 ·exact pilT_inL hS hk hb ht
theorem ty_off{w:World}{e e':TypeId}{y g:Nat}(h:TyIn w e y)(he:g=y)(h':TyIn w e' g)(hn:Nat.beq e e'=false):False:=by
 subst he
 exact Nat.ne_of_beq_eq_false hn (tyIn_one h h')
theorem PilT.mono{es es':List TypeId}{base lb pb cb:Nat}{w:World}{y:Nat}(h:PilT es base lb pb cb w y)(he:es.all es'.contains=true):PilT es' base lb pb cb w y:=by
 rcases h with h|h|⟨h1,e,h2,h3⟩|h
 ·exact .inl h
 ·exact .inr (.inl h)
 ·refine .inr (.inr (.inl ⟨h1,e,?_,h3⟩))
  have h4:=List.all_eq_true.1 he e (by simpa using h2)
  simpa using h4
 ·exact .inr (.inr (.inr h))
theorem new_partyX(frm k:Int)(w:World):Calls Tryz.prog 27 #[i6 frm,i6 k] w (fun e w'=>∃cb,e=.returned (.pointer (some ⟨cb,0,none⟩))∧w.heap.size<=cb∧Blk w' cb 124 [i6 frm,i6 (within14 k),.slice none 0 0]∧Kept (fun _=>False) w w'):=callNew_any frm k w
theorem ask_partyX{w:World}{base cb:Nat}{c:CM}(now to_:Int)(q:AskM)(h:PartyX 124 141 w base cb c)(hb:base<=w.heap.size)(hok:c.opn.length<8∧c.last<1099511627776∧0<=to_∧to_<202) :
  Calls Tryz.prog 91 #[.pointer (some ⟨cb,0,none⟩),i6 now,i6 to_,.agg #[i6 q.kind,i6 q.stripe,i6 q.epoch,i6 q.seq,i6 q.mask,i6 q.node,i6 q.oe,i6 q.os,sT q.block]] w (fun e w'=>e=.returned (.tuple #[.agg #[i6 c.frm,i6 to_,i6 (c.last+1),.bool false,i6 q.kind,i6 q.stripe,i6 q.epoch,i6 q.seq,i6 q.mask,i6 q.node,i6 q.oe,i6 q.os,sT q.block,i6 0,i6 0,i6 0,.bool false,i6 0,i6 0,i6 0,sT ⟨#[]⟩,.bool false,i6 0,i6 0,i6 0,sT ⟨#[]⟩],.bool true])∧PartyX 124 141 w' base cb (askC c now to_ q)∧Kept (PartyTX 141 base cb w) w w'):=by
 obtain⟨h2,A,cp,h3,h4⟩:=h
 have hne:¬ownS A cb:=fun hx=>absurd (tyIn_one (h4.ty cb hx) (blk_ty h3)) (by decide)
 refine(ask_ok c.frm c.last now to_ A c.opn.length cp cb base q c.opn rfl hok h2.last w h3 h4 hb hne).mono fun e w' he=>?_
 obtain⟨A',cp',e1,e2,e3,_,e5⟩:=he
 refine⟨e1,⟨askC_ok h2 hok.1,A',cp',?_,?_⟩,e5.mono (fun y _ hy=>partyX_T h4 y hy)⟩
 ·simpa[askC]using e2
 ·simpa[askC]using e3
theorem drop_partyX{w:World}{base cb:Nat}{c:CM}(h:PartyX 124 141 w base cb c) :
  Calls Tryz.prog 79 #[.pointer (some ⟨cb,0,none⟩)] w (fun e w'=>e=.returned (.tuple #[])∧(∀base',PartyX 124 141 w' base' cb { c with opn:=[] })∧Kept (fun y=>y=cb) w w'):=by
 obtain⟨h2,A,cp,h3,h4⟩:=h
 refine(drop_any c.frm c.last A c.opn.length cp cb w h3).mono fun e w' he=>?_
 obtain⟨e1,e2,e3⟩:=he
 exact⟨e1,fun base'=>⟨⟨by simp,h2.last,fun o ho=>(by cases ho),fun o ho=>(by cases ho)⟩,none,0,e2,OwnR.nil _ _ _ _⟩,e3⟩
theorem open_partyX{w:World}{base cb:Nat}{c:CM}(h:PartyX 124 141 w base cb c):Calls Tryz.prog 36 #[.pointer (some ⟨cb,0,none⟩)] w (RetK (i6 (c.opn.length:Int)) w):=by
 obtain⟨h2,A,cp,h3,h4⟩:=h
 exact open14_any c.frm c.last A c.opn.length cp cb w h3
theorem hit_partyX{sy:SayR}{w:World}{base cb:Nat}{c:CM}{Kp R:List OneM}{o:OneM}(h:PartyX 124 141 w base cb c)(hc:c.opn=Kp++o::R)(hK:∀o'∈Kp,o'.id≠o.id) :
  Calls Tryz.prog 42 #[.pointer (some ⟨cb,0,none⟩),.agg #[i6 o.to,i6 c.frm,i6 o.id,.bool true,i6 0,i6 0,i6 0,i6 0,i6 0,i6 0,i6 0,i6 0,sT ⟨#[]⟩,i6 sy.st,i6 sy.ep,i6 sy.ou,.bool sy.rc.used,i6 sy.rc.fence,i6 sy.rc.de,i6 sy.rc.ds,sT sy.rc.block,.bool sy.rc.op,i6 sy.rc.ie,i6 sy.rc.is,i6 sy.rc.mask,sT sy.rc.staged]] w (fun e w'=>e=.returned (.tuple #[.agg #[i6 o.q.kind,i6 o.q.stripe,i6 o.q.epoch,i6 o.q.seq,i6 o.q.mask,i6 o.q.node,i6 o.q.oe,i6 o.q.os,sT o.q.block],.bool true])∧PartyX 124 141 w' base cb { c with opn:=Kp++R }∧Kept (PartyTX 141 base cb w) w w'):=by
 obtain⟨h2,A,cp,h3,h4⟩:=h
 have hh:=hit_at (lf:=o.to) (lid:=o.id) (R:=R) rfl rfl hK
 refine(answer_any c.frm c.last o.to o.id A c.opn.length cp cb base c.opn rfl (by have:=h2.few; omega) w h3 h4).mono fun e w' he=>?_
 rcases he with⟨_,g2,_⟩|⟨x,o',⟨g1,g2,g3⟩,e2,e3,e4,e5⟩
 ·rw[hc]at g2
  exact absurd g2 hh.2
 ·rw[hc]at g1 g3
  obtain⟨hx,ho⟩:=hh.1 x o' g1 g2 g3
  have hx2:=(List.getElem?_eq_some_iff.1 (hc▸g1)).1
  have hle:(c.opn.eraseIdx x).length=c.opn.length-1:=by rw[List.length_eraseIdx,if_pos hx2]
  have hee:c.opn.eraseIdx x=Kp++R:=by rw[hc,hx,erase_at]
  subst ho
  rw[<-hee]
  exact⟨e2,⟨erase_ok h2,A,cp,by simp only[hle]; exact e3,by simp only[hle]; exact e4⟩,e5.mono (fun y _ hy=>partyX_T h4 y hy)⟩
end Go.Proofs.YtcmpkkapkdlfhaaGreat
