import Derived.Test.YtcmpkkapkdlfhaaGreatParty17
import Derived.Test.YtcmpkkapkdlfhaaGreatRef11
namespace Go.Proofs.YtcmpkkapkdlfhaaGreat
open Go.RowKit
structure SimM where
 (N S sb kb gO cO gL cL gI gS:Nat)
 row:Nat->Nat×Nat
 recs:Nat->Nat->RecM
 lea:Nat->LeaM
 ids:List Int
 says:List SayR
def SimM.rowV(s:SimM)(n:Nat):List Value:=[.slice (some ⟨(s.row n).1,0,none⟩) s.S (s.row n).2]
def SimM.recL(s:SimM)(n:Nat):List RecM:=(List.range s.S).map (s.recs n)
def SimM.leaL(s:SimM):List LeaM:=(List.range s.S).map s.lea
def SimM.cells(s:SimM):List Value:=[i6 (s.N:Int),i6 (s.S:Int),.slice (some ⟨s.gO,0,none⟩) s.N s.cO,.pointer (some ⟨s.kb,0,none⟩),.slice none 0 0]
def SimM.kcells(s:SimM):List Value:=[.slice (some ⟨s.gL,0,none⟩) s.S s.cL,.slice (some ⟨s.gI,0,none⟩) 2 2,.slice (some ⟨s.gS,0,none⟩) 2 2]
structure SimAt(w:World)(b:Nat)(s:SimM):Prop where
 sim:Blk w s.sb 54 s.cells
 kee:Blk w s.kb 119 s.kcells
 rws:OwnR w 0 83 1 (some ⟨s.gO,0,none⟩) s.N s.cO (flatV s.rowV (List.range s.N))
 rcd:∀n,n<s.N->OwnR w 0 61 10 (some ⟨(s.row n).1,0,none⟩) s.S (s.row n).2 (flatV RecM.cells (s.recL n))
 one:∀n m,n<s.N->m<s.N->(s.row n).1=(s.row m).1->n=m
 lea:OwnR w 0 73 4 (some ⟨s.gL,0,none⟩) s.S s.cL (flatV LeaM.cells s.leaL)
 ids:OwnR w 0 3 1 (some ⟨s.gI,0,none⟩) 2 2 (flatV intC s.ids)
 say:OwnR w 0 63 13 (some ⟨s.gS,0,none⟩) 2 2 (flatV SayR.cells s.says)
 low:s.sb<b∧s.kb<b∧s.gO<b∧s.gL<b∧s.gI<b∧s.gS<b∧∀n,n<s.N->(s.row n).1<b
theorem SimAt.kept{w w':World}{b:Nat}{s:SimM}{T:Nat->Prop}(h:SimAt w b s)(hk:Kept T w w')(hT:∀y,T y->b<=y∨TysIn [98,124] w y):SimAt w' b s:=by
 obtain⟨l1,l2,l3,l4,l5,l6,l7⟩:=h.low
 have H:∀{g:Nat}{e:TypeId},g<b->TyIn w e g->([98,124]:List TypeId).contains e=false->¬T g:=fun hg ht hn hx=>by
  rcases hT _ hx with h1|h1
  ·omega
  ·exact tysIn_not hn ht h1
 have O:∀{e:TypeId}{z g n cp:Nat}{cs:List Value},OwnR w 0 e z (some ⟨g,0,none⟩) n cp cs->g<b->([98,124]:List TypeId).contains e=false->OwnR w' 0 e z (some ⟨g,0,none⟩) n cp cs:=fun ho hg hn=>
  ho.kept hk (fun y hy hx=>by have e:=ownS_some y hy; subst e; exact H hg (ho.ty _ hy) hn hx)
 exact⟨h.sim.kept hk (H l1 (blk_ty h.sim) rfl),h.kee.kept hk (H l2 (blk_ty h.kee) rfl),O h.rws l3 rfl,fun n hn=>O (h.rcd n hn) (l7 n hn) rfl,h.one,O h.lea l4 rfl,O h.ids l5 rfl,O h.say l6 rfl,h.low⟩
def SimM.setR(s:SimM)(n i:Nat)(r:RecM):SimM:={ s with recs:=fun n' i'=>if n'=n∧i'=i then r else s.recs n' i' }
theorem range_set{α:Type}(f:Nat->α)(m i:Nat)(r:α):((List.range m).map f).set i r=(List.range m).map (fun k=>if k=i then r else f k):=by
 apply List.ext_getElem?
 intro k
 rw[List.getElem?_set,List.getElem?_map,List.getElem?_map,List.length_map,List.length_range]
 by_cases hk:k<m
 ·rw[List.getElem?_range hk]
  by_cases e:i=k
  ·subst e
   simp[hk]
  ·simp[e,Ne.symm e]
 ·rw[List.getElem?_eq_none (by simpa using hk)]
  by_cases e:i=k
  ·subst e
   simp[hk]
  ·simp[e]
theorem recL_setR(s:SimM)(n i:Nat)(r:RecM):(s.setR n i r).recL n=(s.recL n).set i r:=by
 unfold SimM.recL
 rw[range_set]
 apply List.map_congr_left
 intro k _
 simp[SimM.setR]
theorem recL_setN(s:SimM){n m i:Nat}(r:RecM)(h:m≠n):(s.setR n i r).recL m=s.recL m:=by
 unfold SimM.recL
 apply List.map_congr_left
 intro k _
 simp[SimM.setR,h]
theorem SimAt.setR{w w':World}{b:Nat}{s:SimM}{n i:Nat}{r:RecM}(h:SimAt w b s)(hn:n<s.N)(hk:Kept (fun y=>y=(s.row n).1) w w')(ho:OwnR w' 0 61 10 (some ⟨(s.row n).1,0,none⟩) s.S (s.row n).2 (flatV RecM.cells ((s.recL n).set i r))):SimAt w' b (s.setR n i r):=by
 have hty:=(h.rcd n hn).ty _ ⟨_,rfl,rfl⟩
 have H:∀{g:Nat}{e:TypeId},TyIn w e g->Nat.beq e 61=false->¬g=(s.row n).1:=fun ht hne hx=>by
  subst hx
  exact Nat.ne_of_beq_eq_false hne (tyIn_one ht hty)
 have O:∀{e:TypeId}{z g n' cp:Nat}{cs:List Value},OwnR w 0 e z (some ⟨g,0,none⟩) n' cp cs->Nat.beq e 61=false->OwnR w' 0 e z (some ⟨g,0,none⟩) n' cp cs:=fun ho hn=>
  ho.kept hk (fun y hy hx=>by have e:=ownS_some y hy; subst e; exact H (ho.ty _ hy) hn hx)
 refine⟨h.sim.kept hk (H (blk_ty h.sim) rfl),h.kee.kept hk (H (blk_ty h.kee) rfl),O h.rws rfl,fun m hm=>?_,h.one,O h.lea rfl,O h.ids rfl,O h.say rfl,h.low⟩
 by_cases e:m=n
 ·subst e
  rw[recL_setR]
  exact ho
 ·rw[recL_setN s r e]
  refine(h.rcd m hm).kept hk (fun y hy hx=>?_)
  have e2:=ownS_some y hy
  subst e2
  exact e (h.one m n hm hn hx)
def SimM.setK(s:SimM)(i:Nat)(l:LeaM)(p:Nat)(id:Int)(y:SayR):SimM:={ s with lea:=fun k=>if k=i then l else s.lea k,ids:=s.ids.set p id,says:=s.says.set p y }
theorem SimAt.setK{w w':World}{b:Nat}{s:SimM}{i p:Nat}{l:LeaM}{id:Int}{y:SayR}(h:SimAt w b s)(hk:Kept (fun y=>y=s.gL∨y=s.gI∨y=s.gS) w w')
  (h1:OwnR w' 0 73 4 (some ⟨s.gL,0,none⟩) s.S s.cL (flatV LeaM.cells (s.leaL.set i l))) (h2:OwnR w' 0 3 1 (some ⟨s.gI,0,none⟩) 2 2 (flatV intC (s.ids.set p id))) (h3:OwnR w' 0 63 13 (some ⟨s.gS,0,none⟩) 2 2 (flatV SayR.cells (s.says.set p y))):SimAt w' b (s.setK i l p id y):=by
 have hT:∀y,(y=s.gL∨y=s.gI∨y=s.gS)->TysIn [73,3,63] w y:=by
  rintro y (rfl|rfl|rfl)
  ·exact⟨73,by simp,h.lea.ty _ ⟨_,rfl,rfl⟩⟩
  ·exact⟨3,by simp,h.ids.ty _ ⟨_,rfl,rfl⟩⟩
  ·exact⟨63,by simp,h.say.ty _ ⟨_,rfl,rfl⟩⟩
 have e1:(s.setK i l p id y).leaL=s.leaL.set i l:=by
  unfold SimM.leaL
  rw[range_set]
  rfl
 exact⟨h.sim.kept hk (fun hx=>tysIn_not rfl (blk_ty h.sim) (hT _ hx)),h.kee.kept hk (fun hx=>tysIn_not rfl (blk_ty h.kee) (hT _ hx)),h.rws.keptT hk hT rfl,fun n hn=>(h.rcd n hn).keptT hk hT rfl,h.one,by rw[e1]; exact h1,h2,h3,h.low⟩
theorem SimAt.tyK{w:World}{b:Nat}{s:SimM}(h:SimAt w b s):∀y,(y=s.gL∨y=s.gI∨y=s.gS)->y<b:=by
 obtain⟨l1,l2,l3,l4,l5,l6,l7⟩:=h.low
 rintro y (rfl|rfl|rfl)<;>assumption
def TL17:List TypeId:=[98,124,141,4,61,178,180,73,3,63,54,119,83]
def LawT(w:World)(y:Nat):Prop:=TysIn TL17 w y
def LawL(lo:Nat)(w:World)(y:Nat):Prop:=LawT w y∧lo<=y
theorem lawL_up{lo:Nat}{w wx:World}(hk:Kept (LawL lo w) w wx):∀y,LawL lo wx y->LawL lo w y∨w.heap.size<=y:=by
 rintro y ⟨⟨e,he,cur,fz,hc⟩,hl⟩
 by_cases h1:y<w.heap.size
 ·by_cases h2:LawL lo w y
  ·exact .inl h2
  ·rw[hk.block y h1 h2]at hc
   exact absurd ⟨⟨e,he,cur,fz,hc⟩,hl⟩ h2
 ·exact .inr (by omega)
theorem lawL_none{w w':World}(h:Kept (LawL w.heap.size w) w w'):Kept (fun _=>False) w w':=h.mono fun y hy ht=>absurd ht.2 (by omega)
def SimLo(lo:Nat)(s:SimM):Prop:=lo<=s.gL∧lo<=s.gI∧lo<=s.gS∧∀n,n<s.N->lo<=(s.row n).1
def Stb(F:World->Prop):Prop:=∀w w' (T:Nat->Prop) (es:List TypeId),F w->Kept T w w'->(∀y,T y->TysIn es w y)->es.all (fun e=>!(TL17.contains e))=true->F w'
def Stb1(F:World->Prop):Prop:=∀w w' (T:Nat->Prop) (es:List TypeId),F w->Kept T w w'->(∀y,T y->TysIn es w y)->es.all (fun e=>!((65::TL17).contains e))=true->F w'
theorem law8_ty{wx:World}{b:Nat}:∀y,LawT wx y∨(b<=y∧TyIn wx 65 y)->TysIn (65::TL17) wx y:=by
 rintro y (⟨e,he,h⟩|⟨_,h⟩)
 ·exact⟨e,by simp at he ⊢; exact .inr he,h⟩
 ·exact⟨65,by simp,h⟩
theorem law8L_ty{lo:Nat}{wx:World}{b:Nat}:∀y,LawL lo wx y∨(b<=y∧TyIn wx 65 y)->TysIn (65::TL17) wx y:=fun y h=>law8_ty y (h.imp_left fun h=>h.1)
theorem stb_not{es:List TypeId}(he:es.all (fun e=>!(TL17.contains e))=true):∀e,TL17.contains e=true->es.contains e=false:=fun e h5=>by
 cases h6:es.contains e with
 |false=>rfl
 |true=>
  have h7:=List.all_eq_true.1 he e (by simpa using h6)
  rw[h5]at h7
  cases h7
theorem SimAt.stb{b:Nat}{s:SimM}:Stb (fun W=>SimAt W b s):=fun _ _ _ _ h hk hT he=>by
 have H:=stb_not he
 have B:∀{g:Nat}{e:TypeId}{cs:List Value},Blk _ g e cs->TL17.contains e=true->_:=fun hb hn=>hb.kept hk (fun hx=>tysIn_not (H _ hn) (blk_ty hb) (hT _ hx))
 exact⟨B h.sim rfl,B h.kee rfl,h.rws.keptT hk hT (H _ rfl),fun n hn=>(h.rcd n hn).keptT hk hT (H _ rfl),h.one,h.lea.keptT hk hT (H _ rfl),h.ids.keptT hk hT (H _ rfl),h.say.keptT hk hT (H _ rfl),h.low⟩
end Go.Proofs.YtcmpkkapkdlfhaaGreat
namespace Go.Proofs.YtcmpkkapkdlfhaaGreat
open Go.RowKit
set_option maxHeartbeats 4000000
set_option maxRecDepth 100000
section
variable (s:SimM)(frm id:Int)(q:AskM)(r r':RecM)(sy:SayR)(n i:Nat)(w:World)(_:Unit)
def sna_v1:List Value:=[i6 frm,i6 (n:Int),i6 id,.bool false,i6 q.kind,i6 (i:Int),i6 q.epoch,i6 q.seq,i6 q.mask,i6 q.node,i6 q.oe,i6 q.os,sT q.block,i6 0,i6 0,i6 0,.bool false,i6 0,i6 0,i6 0,sT ⟨#[]⟩,.bool false,i6 0,i6 0,i6 0,sT ⟨#[]⟩]
def sna_v2:List Value:=rp 3 (i6 0)++[.bool false]++rp 8 (i6 0)++[sT ⟨#[]⟩]++rp 3 (i6 0)++[.bool false]++rp 3 (i6 0)++[sT ⟨#[]⟩,.bool false]++rp 3 (i6 0)++[sT ⟨#[]⟩]
def sna_v3:List Value:=[i6 (n:Int),i6 frm,i6 id,.bool true]++rp 8 (i6 0)++[sT ⟨#[]⟩,i6 0,i6 0,i6 0,.bool false,i6 0,i6 0,i6 0,sT ⟨#[]⟩,.bool false,i6 0,i6 0,i6 0,sT ⟨#[]⟩]
def sna_v4:List Value:=[.bool r.used,i6 r.fence,i6 r.de,i6 r.ds,sT r.block,.bool r.op,i6 r.ie,i6 r.is,i6 r.mask,sT r.staged]
def sna_v5:List Value:=[i6 q.kind,i6 (i:Int),i6 q.epoch,i6 q.seq,i6 q.mask,i6 q.node,i6 q.oe,i6 q.os,sT q.block]
def sna_v6:List Value:=[.bool r'.used,i6 r'.fence,i6 r'.de,i6 r'.ds,sT r'.block,.bool r'.op,i6 r'.ie,i6 r'.is,i6 r'.mask,sT r'.staged]
def sna_v7:List Value:=[i6 sy.st,i6 sy.ep,i6 sy.ou,.bool sy.rc.used,i6 sy.rc.fence,i6 sy.rc.de,i6 sy.rc.ds,sT sy.rc.block,.bool sy.rc.op,i6 sy.rc.ie,i6 sy.rc.is,i6 sy.rc.mask,sT sy.rc.staged]
def sna_v8:List Value:=[i6 (n:Int),i6 frm,i6 id,.bool true]++rp 8 (i6 0)++[sT ⟨#[]⟩,i6 sy.st,i6 sy.ep,i6 sy.ou,.bool sy.rc.used,i6 sy.rc.fence,i6 sy.rc.de,i6 sy.rc.ds,sT sy.rc.block,.bool sy.rc.op,i6 sy.rc.ie,i6 sy.rc.is,i6 sy.rc.mask,sT sy.rc.staged]
@[simp] def sna_b1:List Bk:=[⟨s.sb,54,false,s.cells⟩,⟨w.heap.size,65,true,(sna_v1 frm id q n i)⟩,⟨w.heap.size+1,65,true,(sna_v2)⟩,⟨w.heap.size+2,65,true,(sna_v3 frm id n)⟩]
@[simp] def sna_b2:List Bk:=[⟨s.sb,54,false,s.cells⟩,⟨w.heap.size,65,true,(sna_v1 frm id q n i)⟩,⟨w.heap.size+1,65,true,(sna_v2)⟩,⟨w.heap.size+2,65,true,(sna_v8 frm id sy n)⟩]
theorem sna_q2:Out.prune [0,5,6,7,8,72] (qListG Tryz.prog 107 w (fun _=>False) (opsOf (getCode (bodyOf Tryz.f18) [1,1,1,1,0,0])) (opsOf (getCode (bodyOf Tryz.f18) [1,1,1,1,0,0])).toList ⟨[(0,(pt s.sb 0)),(5,(pt w.heap.size 0)),(6,(pt (w.heap.size+1) 0)),(7,.bool false),(8,(pt (w.heap.size+2) 0))],(sna_b1 s frm id q n i w),[],w.heap.size+3⟩ [(false,.op oh0),(false,.op (oA 1 1 1)),(false,.op oh0),(false,.op oh0),(false,.op oh0),(false,.op (oA 1 1 1)),(false,.op oh0),(false,.op oh0),(false,.op oh0),(false,.op oh0),(false,.op (oA 0 0 1)),(false,.op oh0),(false,.op ⟨false,3,[]⟩),(false,.op oh0),(false,.op oh0),(false,.op oh0),(false,.op (oA 1 5 1)),(false,.op oh0),(false,.op oh0),(false,.op oh0),(false,.op oh0),(false,.op (oA 0 1 1)),(false,.op oh0),(false,.op ⟨false,3,[]⟩),(false,.op oh0),(false,.op oh0),(false,.op oh0),(false,.op (oA 1 5 1)),(false,.op oh0),(false,.op ⟨false,3,[]⟩)])=some ⟨[(decide (((n:Int):Int)<0))=false,(decide (((n:Int):Int)<0))=false,(decide (((n:Int):Int)<0))=false,(decide (((n:Int):Int)<0))=false,(decide (((n:Int):Int)<0))=false,(decide (((n:Int):Int)<0))=false,(decide (((n:Int):Int)<0))=false,(decide (((n:Int):Int)<0))=false,(decide (((n:Int):Int)<0))=false,(decide (((n:Int):Int)>=(s.N:Int)))=false,(decide (((n:Int):Int)>=(s.N:Int)))=false,(decide (((n:Int):Int)>=(s.N:Int)))=false,(decide (((n:Int):Int)>=(s.N:Int)))=false,(decide (((n:Int):Int)>=(s.N:Int)))=false,(decide (((n:Int):Int)>=(s.N:Int)))=false,(decide (((n:Int):Int)>=(s.N:Int)))=false,(decide (((n:Int):Int)>=(s.N:Int)))=false,(decide (((n:Int):Int)>=(s.N:Int)))=false,(decide (((n:Int):Int)>=(s.N:Int)))=false,(decide (((i:Int):Int)>=(s.S:Int)))=false,(decide (((i:Int):Int)>=(s.S:Int)))=false,(decide (((i:Int):Int)>=(s.S:Int)))=false,(decide (((i:Int):Int)>=(s.S:Int)))=false,(decide (((i:Int):Int)>=(s.S:Int)))=false],dupR [(w.heap.size,1,1),(w.heap.size,1,1),(s.sb,0,1),(w.heap.size,5,1),(s.sb,1,1),(w.heap.size,5,1)],⟨[(0,(pt s.sb 0)),(5,(pt w.heap.size 0)),(6,(pt (w.heap.size+1) 0)),(7,.bool false),(8,(pt (w.heap.size+2) 0)),(72,.bool (decide (((i:Int):Int)<0)))],(sna_b1 s frm id q n i w),[],w.heap.size+3⟩⟩:=by kernel_rfl
def sna_y4s:List (Nat×Value):=[(0,(pt s.sb 0)),(5,(pt w.heap.size 0)),(6,(pt (w.heap.size+1) 0)),(7,.bool false),(8,(pt (w.heap.size+2) 0))]
def sna_y4v(_:Unit):List (Option Value):=[some ((pt s.sb 0)),some ((pt s.sb 0)),some ((pt s.sb 2)),some (.slice (some ⟨s.gO,0,none⟩) s.N s.cO),some ((pt w.heap.size 1)),some (i6 (n:Int)),some (.pointer (some ⟨s.gO,0+n*1,none⟩)),some (.slice (some ⟨(s.row n).1,0,none⟩) s.S ((s.row n).2)),some ((pt w.heap.size 4)),some ((pt w.heap.size 5)),some (i6 (i:Int)),some ((pt s.sb 0)),some ((pt s.sb 0)),some ((pt s.sb 2)),some (.slice (some ⟨s.gO,0,none⟩) s.N s.cO),some ((pt w.heap.size 1)),some (i6 (n:Int)),some (.pointer (some ⟨s.gO,0+n*1,none⟩)),some (.slice (some ⟨(s.row n).1,0,none⟩) s.S ((s.row n).2)),some ((pt w.heap.size 4)),some ((pt w.heap.size 5)),some (i6 (i:Int)),some (.pointer (some ⟨(s.row n).1,0+i*10,none⟩)),some (.agg (List.toArray (sna_v4 r))),some ((pt w.heap.size 4)),some (.agg (List.toArray (sna_v5 q i))),some (.tuple #[.agg (List.toArray (sna_v6 r')),.agg (List.toArray (sna_v7 sy))]),some (.tuple #[.agg (List.toArray (sna_v6 r')),.agg (List.toArray (sna_v7 sy))]),some (.agg (List.toArray (sna_v6 r'))),some (.agg (List.toArray (sna_v7 sy))),some (.pointer (some ⟨(s.row n).1,0+i*10,none⟩)),some (.tuple #[]),some ((pt (w.heap.size+2) 13)),some (.tuple #[])]
def sna_y4F(_:Unit)(k:Nat):Bool:=([true,true,true,true,true,true,true,true,true,true,true,true,true,true,true,true,true,true,true,true,true,true,true,true,true,true,true,true,true,true,true,true,true,true]:List Bool)[k]?.getD true
def sna_y4m(_:Unit):List (List Bk):=[(sna_b1 s frm id q n i w),(sna_b1 s frm id q n i w),(sna_b2 s frm id q sy n i w)]
abbrev sna_y4X(s:SimM)(b:Nat)(r':RecM)(n:Nat)(i:Nat)(c_:Nat)(_:Unit)(W_:World):Prop:=match c_ with|0=>SimAt W_ b s|1=>SimAt W_ b (s.setR n i r')|2=>SimAt W_ b (s.setR n i r')|_=>True
def sna_y4C(b:Nat)(frm:Int)(id:Int)(q:AskM)(r:RecM)(r':RecM)(sy:SayR)(n:Nat)(i:Nat)(w:World)(z2:Nat)(i_:Nat):Prop:=cY Tryz.prog Tryz.f18 [1,1,1,1,1,0] 107 [] (bodyPost Tryz.prog Tryz.f18 (fun e w'=>e=.returned (.tuple #[.agg (List.toArray (sna_v8 frm id sy n)),.bool true])∧SimAt w' b (s.setR n i r')∧Kept (fun y=>y=(s.row n).1) w w')) [.code [1,1,1,1,1,1]] (sna_y4s s w) [none,none,none,none,none,none,none,none,none,none,none,none,none,none,none,none,none,none,none,none,none,none,none,none,none,none,none,none,none,none,none,some 0,none,some 1] 2 (sna_y4v s q r r' sy n i w) sna_y4F w (fun y=>y=(s.row n).1) (sna_y4m s frm id q sy n i w) z2 (sna_y4X s b r' n i) i_
end
theorem ans_node(s:SimM)(b n i:Nat)(now frm id:Int)(q:AskM)(r r':RecM)(sy:SayR)(hn:n<s.N)(hi:i<s.S)(hN:s.N<=6)(hr:s.recs n i=r)(w:World)(hA:SimAt w b s)(hbw:b<=w.heap.size)(hap:∀wx,Calls Tryz.prog 40 #[.agg #[.bool r.used,i6 r.fence,i6 r.de,i6 r.ds,sT r.block,.bool r.op,i6 r.ie,i6 r.is,i6 r.mask,sT r.staged],.agg #[i6 q.kind,i6 (i:Int),i6 q.epoch,i6 q.seq,i6 q.mask,i6 q.node,i6 q.oe,i6 q.os,sT q.block]] wx (RetK (.tuple #[.agg #[.bool r'.used,i6 r'.fence,i6 r'.de,i6 r'.ds,sT r'.block,.bool r'.op,i6 r'.ie,i6 r'.is,i6 r'.mask,sT r'.staged],.agg #[i6 sy.st,i6 sy.ep,i6 sy.ou,.bool sy.rc.used,i6 sy.rc.fence,i6 sy.rc.de,i6 sy.rc.ds,sT sy.rc.block,.bool sy.rc.op,i6 sy.rc.ie,i6 sy.rc.is,i6 sy.rc.mask,sT sy.rc.staged]]) wx)) :
  Calls Tryz.prog 18 #[.pointer (some ⟨s.sb,0,none⟩),i6 now,.agg #[i6 frm,i6 (n:Int),i6 id,.bool false,i6 q.kind,i6 (i:Int),i6 q.epoch,i6 q.seq,i6 q.mask,i6 q.node,i6 q.oe,i6 q.os,sT q.block,i6 0,i6 0,i6 0,.bool false,i6 0,i6 0,i6 0,sT ⟨#[]⟩,.bool false,i6 0,i6 0,i6 0,sT ⟨#[]⟩]] w (fun e w'=>e=.returned (.tuple #[.agg #[i6 (n:Int),i6 frm,i6 id,.bool true,i6 0,i6 0,i6 0,i6 0,i6 0,i6 0,i6 0,i6 0,sT ⟨#[]⟩,i6 sy.st,i6 sy.ep,i6 sy.ou,.bool sy.rc.used,i6 sy.rc.fence,i6 sy.rc.de,i6 sy.rc.ds,sT sy.rc.block,.bool sy.rc.op,i6 sy.rc.ie,i6 sy.rc.is,i6 sy.rc.mask,sT sy.rc.staged],.bool true])∧SimAt w' b (s.setR n i r')∧Kept (fun y=>y=(s.row n).1) w w'):=by
 refine cH (S:=(fun _=>False)) (n:=107) Tryz.func18 (MemOk.start (bk:=[⟨s.sb,54,false,s.cells⟩]) (wn:=[]) (fun b hb=>by obtain rfl:=List.mem_singleton.1 hb; exact hA.sim) (fun b hb hr=>by obtain rfl:=List.mem_singleton.1 hb; cases hr) (by simp) (by simp)) ?_
 have hgs:=hA.sim.lt
 have hrl:=(hA.rcd n hn).own _ ⟨_,rfl,rfl⟩
 have hrty:TyIn w 61 (s.row n).1:=(hA.rcd n hn).ty _ ⟨_,rfl,rfl⟩
 have hol:=hA.rws.own _ ⟨_,rfl,rfl⟩
 have hrl1:(s.row n).1<w.heap.size:=hrl.2
 have hol1:s.gO<w.heap.size:=hol.2
 have hri:(s.recL n)[i]?=some r:=by rw[SimM.recL,List.getElem?_map,List.getElem?_range hi]; exact congrArg some hr
 have hln:(s.recL n).length=s.S:=by simp[SimM.recL]
 refine hgE 40 (dz 19 0x1011801a00380001021800100180010118000103180000) [0,5,6,7,8] [fF,oE (((n:Int)==100)=false) (beq_eq_false_iff_ne.2 (by omega))] [(w.heap.size,3,1),(w.heap.size,1,1),(w.heap.size,0,1),(w.heap.size,2,1),(w.heap.size+2,0,26),(w.heap.size,1,1)] [.code [1,1,1,1,0,0],.code [1,1,1,1,0,1],.code [1,1,1,1,1]] ⟨[(0,(pt s.sb 0)),(5,(pt w.heap.size 0)),(6,(pt (w.heap.size+1) 0)),(7,.bool false),(8,(pt (w.heap.size+2) 0))],(sna_b1 s frm id q n i w),[],w.heap.size+3⟩ ?_
 refine holds_quietG _ _ (by kernel_rfl) (by kernel_rfl) (by kernel_rfl) (sna_q2 s frm id q n i w) ⟨decide_eq_false (by omega),decide_eq_false (by omega),decide_eq_false (by omega),decide_eq_false (by omega),decide_eq_false (by omega),decide_eq_false (by omega),decide_eq_false (by omega),decide_eq_false (by omega),decide_eq_false (by omega),decide_eq_false (by omega),decide_eq_false (by omega),decide_eq_false (by omega),decide_eq_false (by omega),decide_eq_false (by omega),decide_eq_false (by omega),decide_eq_false (by omega),decide_eq_false (by omega),decide_eq_false (by omega),decide_eq_false (by omega),decide_eq_false (by omega),decide_eq_false (by omega),decide_eq_false (by omega),decide_eq_false (by omega),decide_eq_false (by omega),trivial⟩ fun z2 hz2=>?_
 replace hz2:w.heap.size+3<=z2:=hz2
 refine hgE 6 [oh0] [0,5,6,7,8] [dF (((i:Int):Int)<0)] [] [.code [1,1,1,1,1,0],.code [1,1,1,1,1,1]] ⟨[(0,(pt s.sb 0)),(5,(pt w.heap.size 0)),(6,(pt (w.heap.size+1) 0)),(7,.bool false),(8,(pt (w.heap.size+2) 0))],(sna_b1 s frm id q n i w),[],z2⟩ ?_
 have hne:(s.row n).1≠s.sb:=fun e=>absurd (tyIn_one hrty (e▸blk_ty hA.sim)) (by decide)
 have hrb:(s.row n).1<b:=hA.low.2.2.2.2.2.2 n hn
 have sna_y4_X:StayY w (fun y=>y=(s.row n).1) (sna_y4m s frm id q sy n i w) (sna_y4X s b r' n i):=by
  intro c_ d wx w' bk hb hm hx hk
  match c_,hb,hx with
  |0,hb,hx=>
   obtain rfl:=Option.some.inj hb
   exact hx.kept hk (fun y ⟨b_,hb,hr,he⟩=>by simp at hb; rcases hb with rfl|rfl|rfl|rfl<;>simp at hr he<;>exact .inl (by omega))
  |1,hb,hx=>
   obtain rfl:=Option.some.inj hb
   exact hx.kept hk (fun y ⟨b_,hb,hr,he⟩=>by simp at hb; rcases hb with rfl|rfl|rfl|rfl<;>simp at hr he<;>exact .inl (by omega))
  |2,hb,hx=>
   obtain rfl:=Option.some.inj hb
   exact hx.kept hk (fun y ⟨b_,hb,hr,he⟩=>by simp at hb; rcases hb with rfl|rfl|rfl|rfl<;>simp at hr he<;>exact .inl (by omega))
  |c_+3,hb,hx=>exact trivial
 have sna_y4_c7:sna_y4C s b frm id q r r' sy n i w z2 7:=certY_opR (B:=0) (x:=fun d=>Instr.loadAt 83 (.pointer (some ⟨s.gO,0+n*1,none⟩))) (fun d=>.slice (some ⟨(s.row n).1,0,none⟩) s.S ((s.row n).2)) (by kernel_rfl) (.inr ⟨31,by kernel_rfl,List.mem_of_getElem? (i:=10) (by kernel_rfl)⟩) (fun d=>by kernel_rfl) (fun d=>by kernel_rfl) (fun d=>by kernel_rfl) (fun d=>by kernel_rfl) (fun c_ d wx bk hc hb hm hx=>by
   obtain rfl:c_=0:=by omega
   exact run_load1 (by kernel_rfl) (own_elem (f:=s.rowV) (fun _=>rfl) hx.rws (by rw[List.getElem?_range hn]) 0 _ rfl))
 have sna_y4_c18:sna_y4C s b frm id q r r' sy n i w z2 18:=certY_opR (B:=0) (x:=fun d=>Instr.loadAt 83 (.pointer (some ⟨s.gO,0+n*1,none⟩))) (fun d=>.slice (some ⟨(s.row n).1,0,none⟩) s.S ((s.row n).2)) (by kernel_rfl) (.inr ⟨31,by kernel_rfl,List.mem_of_getElem? (i:=21) (by kernel_rfl)⟩) (fun d=>by kernel_rfl) (fun d=>by kernel_rfl) (fun d=>by kernel_rfl) (fun d=>by kernel_rfl) (fun c_ d wx bk hc hb hm hx=>by
   obtain rfl:c_=0:=by omega
   exact run_load1 (by kernel_rfl) (own_elem (f:=s.rowV) (fun _=>rfl) hx.rws (by rw[List.getElem?_range hn]) 0 _ rfl))
 have sna_y4_c23:sna_y4C s b frm id q r r' sy n i w z2 23:=certY_opR (B:=0) (x:=fun d=>Instr.loadAt 61 (.pointer (some ⟨(s.row n).1,0+i*10,none⟩))) (fun d=>.agg (List.toArray (sna_v4 r))) (by kernel_rfl) (.inr ⟨31,by kernel_rfl,List.mem_of_getElem? (i:=26) (by kernel_rfl)⟩) (fun d=>by kernel_rfl) (fun d=>by kernel_rfl) (fun d=>by kernel_rfl) (fun d=>by kernel_rfl) (fun c_ d wx bk hc hb hm hx=>by
   obtain rfl:c_=0:=by omega
   exact run_loadSC (vs:=RecM.cells r) (by kernel_rfl) (by kernel_rfl) (own_elem rec_len (hx.rcd n hn) hri))
 have sna_y4_c26:sna_y4C s b frm id q r r' sy n i w z2 26:=certY_call (B:=2) (f:=40) (args:=fun d=>[.agg (List.toArray (sna_v4 r)),.agg (List.toArray (sna_v5 q i))]) (ob:=fun d=>[]) (fun d=>.tuple #[.agg (List.toArray (sna_v6 r')),.agg (List.toArray (sna_v7 sy))]) (by kernel_rfl) (.inl rfl) (fun d=>by kernel_rfl) (fun d=>by kernel_rfl) (fun d=>by kernel_rfl) (fun d=>trivial) (fun c_ d wx bk hc hb hm hx=>hap wx) sna_y4_X
 have sna_y4_c31:sna_y4C s b frm id q r r' sy n i w z2 31:=cyS (s:=0) (x:=fun d=>Instr.storeAt 61 (.pointer (some ⟨(s.row n).1,0+i*10,none⟩)) (.agg (List.toArray (sna_v6 r')))) (fun(d:Unit)(_:Unit)=>d) (fun d wx bk hb hm hx hcame=>by
  obtain rfl:=Option.some.inj hb
  obtain⟨w',h1,h2,h3,h5⟩:=own_storeG (P:=Tryz.prog) (t:=61) (v:=.agg (List.toArray (sna_v6 r'))) (0+i*10) 10 (hx.rcd n hn) rfl (by omega) (by kernel_rfl) (ones_all rfl)
  rw[show(0+i*10)=i*10 by omega,show(.agg (List.toArray (sna_v6 r')):Value).cells.toList=RecM.cells r' from rfl,flatV_put rec_len (by omega)]at h2
  have h4:Kept (fun y=>y=(s.row n).1) wx w':=h3.mono (fun y _ hy=>ownS_some y hy)
  exact⟨(),w',h1,rfl,hx.setR hn h4 h2,hm.offA (fun _ h=>h) h4 (fun y hy=>.inl hy) (fun b_ hb hy=>by simp at hb; rcases hb with rfl|rfl|rfl|rfl<;>simp only at hy<;>first|exact hne hy.symm|omega),Nat.le_of_eq h5.symm⟩)
 have sna_y4_c33:sna_y4C s b frm id q r r' sy n i w z2 33:=cyS (s:=1) (x:=fun d=>Instr.storeAt 63 ((pt (w.heap.size+2) 13)) (.agg (List.toArray (sna_v7 sy)))) (fun(d:Unit)(_:Unit)=>d) (fun d wx bk hb hm hx hcame=>by
  obtain rfl:=Option.some.inj hb
  obtain⟨w',h1,hB1,hk1,hz1⟩:=store_to (P:=Tryz.prog) (t:=63) (v:=.agg (List.toArray (sna_v7 sy))) (by kernel_rfl) (hm.at_ 3 rfl) rfl (by show 13+13<=26; omega) (ones_all rfl) rfl
  exact⟨(),w',h1,rfl,hx.kept hk1 (fun y hy=>.inl (by dsimp only at hy; omega)),(hm.set1 3 rfl rfl hk1 hB1).2,Nat.le_of_eq hz1.symm⟩)
 have sna_y4_R:∀e_∈(rZsY 2 [0,1,2,4,8,9,11,12,13,15,19,20,24,27,28,29,32]++[rY 3 2 0 2 1 s.sb,rY 5 2 1 1 1 w.heap.size,⟨6,2,oh2,fun _=>[oE ((0:Int)<=(n:Int)∧(n:Int)<((s.N:Nat):Int))],fun _=>[]⟩,rY 10 2 1 5 1 w.heap.size,rY 14 2 0 2 1 s.sb,rY 16 2 1 1 1 w.heap.size,⟨17,2,oh2,fun _=>[oE ((0:Int)<=(n:Int)∧(n:Int)<((s.N:Nat):Int))],fun _=>[]⟩,rY 21 2 1 5 1 w.heap.size,⟨22,2,oh2,fun _=>[oE ((0:Int)<=(i:Int)∧(i:Int)<((s.S:Nat):Int))],fun _=>[]⟩,rY 25 2 1 4 9 w.heap.size,⟨30,2,oh2,fun _=>[oE ((0:Int)<=(i:Int)∧(i:Int)<((s.S:Nat):Int))],fun _=>[]⟩]:List (RegY (Unit))),sna_y4C s b frm id q r r' sy n i w z2 e_.i:=certsY_reg _ sna_y4_X (fun d=>by kernel_rfl) (by kernel_rfl) (fun d sz=>by kernel_rfl)
 have sna_y4_A:∀i_,i_<34->sna_y4C s b frm id q r r' sy n i w z2 i_:=allY (l:=[7,18,23,26,31,33]) (by kernel_rfl) sna_y4_R ⟨sna_y4_c7,sna_y4_c18,sna_y4_c23,sna_y4_c26,sna_y4_c31,sna_y4_c33,trivial⟩
 refine holds_mixY (Δ:=Unit) (fun y=>y=(s.row n).1) (sna_y4v s q r r' sy n i w) sna_y4F (sna_y4m s frm id q sy n i w) (sna_y4X s b r' n i) [6,7,8] (fun d=>[(6,(pt (w.heap.size+1) 0)),(7,.bool false),(8,(pt (w.heap.size+2) 0))]) (fun d=>(sna_b2 s frm id q sy n i w)) () (fun _ h=>h.elim) (by kernel_rfl) (by kernel_rfl) (by kernel_rfl) (fun wx hm=>hA.kept hm.kept.drew (fun _ h=>h.elim)) (by kernel_rfl) sna_y4_A (fun d=>by kernel_rfl) (fun d=>by kernel_rfl) (fun d W1 hfin hX1 hz1 hm1=>?_)
 refine hgS 9 (dz 3 0x1a00281a0038) [6,7] [] [(w.heap.size+2,0,26),(w.heap.size+1,0,26)] [.code [1,1,1,1,1,1,1]] [⟨s.sb,54,false,s.cells⟩,⟨w.heap.size,65,true,(sna_v1 frm id q n i)⟩,⟨w.heap.size+1,65,true,(sna_v8 frm id sy n)⟩,⟨w.heap.size+2,65,true,(sna_v8 frm id sy n)⟩] [] W1.heap.size ?_
 refine hrt [[⟨false,2,0,26⟩]] [.agg (List.toArray (sna_v8 frm id sy n)),.bool true] [(w.heap.size+1,0,26)] ?_
 intro wx hm
 exact⟨rfl,hX1.kept hm.kept (fun y ⟨b_,hb,hr,he⟩=>by simp at hb; rcases hb with rfl|rfl|rfl|rfl<;>simp at hr he<;>exact .inl (by omega)),(MemOk.bck hm1 hm).kept⟩
end Go.Proofs.YtcmpkkapkdlfhaaGreat
