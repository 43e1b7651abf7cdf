import Derived.Test.YtcmpkkapkdlfhaaGreatTwo17
namespace Go.Proofs.YtcmpkkapkdlfhaaGreat
open Go.RowKit
set_option maxHeartbeats 4000000
set_option maxRecDepth 100000
theorem abides_none{β:Type}{B:Nat}{J:β->World->Prop}(h:AbidesFrom B J){s:β}{W W':World}(hs:J s W)(hk:Kept (fun _=>False) W W'):J s W':=
 h s W W' none hs ⟨hk.os,hk.tape,hk.output,hk.size,fun k hk' _=>hk.block k hk' id⟩ (fun _ e=>by cases e)
theorem holds_opsNil{D:List Deferred}{P:Program}{body:Code}{n:Nat}{w0:World}{S:Nat->Prop}{Q:Exit->Act->World->Prop}{p:List Nat}{k:List KI}{st:St}(h:Holds D P body n w0 S Q k st):Holds D P body n w0 S Q (.ops p []::k) st:=h
theorem meant_mem{w0 W:World}{tCp tF tC tI:TypeId}{c1 c2 cb nb cp:Nat}{fv:Value}{frm last:Int}{A:Option Addr}{opn:List OneM}{pre:List Nat}{xs:List Value}(h:MeantI w0 tCp tF tC c1 c2 cb fv (fun W=>Blk W nb tI xs) frm last A cp opn pre W)(hne:([c1,c2,nb]:List Nat).Nodup) :
  MemOk w0 (fun _=>True) [⟨c1,tCp,false,[.pointer (some ⟨cb,0,none⟩)]⟩,⟨c2,tF,false,[fv]⟩,⟨nb,tI,false,xs⟩] [] W.heap.size W:=
 ⟨rfl,by simpa using⟨h.c1,h.c2,h.x⟩,fun _ _ _=>.inl trivial,by simpa using hne,h.kp,fun _ hx=>by cases hx⟩
def mag_v1(o:OneM):List Value:=[i6 o.to,i6 o.id,i6 o.q.kind,i6 o.q.stripe,i6 o.q.epoch,i6 o.q.seq,i6 o.q.mask,i6 o.q.node,i6 o.q.oe,i6 o.q.os,sT o.q.block,i6 o.asked,i6 o.sent]
theorem okmag_any(o:OneM)(now:Int)(nb:Nat)(hw:-9223372036854775808<=now-o.sent∧now-o.sent<=9223372036854775807)(w:World)(hn:Blk w nb 3 [i6 now]) :
  Calls Tryz.prog 60 #[.agg #[i6 o.to,i6 o.id,i6 o.q.kind,i6 o.q.stripe,i6 o.q.epoch,i6 o.q.seq,i6 o.q.mask,i6 o.q.node,i6 o.q.oe,i6 o.q.os,sT o.q.block,i6 o.asked,i6 o.sent],.pointer (some ⟨nb,0,none⟩)] w (RetK (.bool (decide (now-o.sent>=2))) w):=by
 refine cH (S:=(fun _=>False)) (n:=9) Tryz.func60 (MemOk.start (bk:=[⟨nb,3,false,[i6 now]⟩]) (wn:=[]) (by simpa using hn) (by simp) (by simp) (by simp)) ?_
 refine hgS 17 (dz 8 0x2010c18001000800) [3] [n64 ((now-o.sent))] [(nb,0,1),(w.heap.size,12,1)] [.code [1,1]] [⟨nb,3,false,[i6 now]⟩,⟨w.heap.size,141,true,(mag_v1 o)⟩] [] (w.heap.size+1) ?_
 refine hrt [] [.bool (decide (((now-o.sent):Int)>=2))] [] ?_
 intro wx hm
 exact⟨rfl,hm.kept⟩
def mlt_v1(o:OneM):List Value:=(mag_v1 o)
theorem okmlt_any(o:OneM)(now:Int)(nb:Nat)(hw:-9223372036854775808<=now-o.asked∧now-o.asked<=9223372036854775807)(w:World)(hn:Blk w nb 3 [i6 now]) :
  Calls Tryz.prog 92 #[.agg #[i6 o.to,i6 o.id,i6 o.q.kind,i6 o.q.stripe,i6 o.q.epoch,i6 o.q.seq,i6 o.q.mask,i6 o.q.node,i6 o.q.oe,i6 o.q.os,sT o.q.block,i6 o.asked,i6 o.sent],.pointer (some ⟨nb,0,none⟩)] w (RetK (.bool (decide (now-o.asked>=8))) w):=by
 refine cH (S:=(fun _=>False)) (n:=9) Tryz.func92 (MemOk.start (bk:=[⟨nb,3,false,[i6 now]⟩]) (wn:=[]) (by simpa using hn) (by simp) (by simp) (by simp)) ?_
 refine hgS 17 (dz 8 0x2010b18001000800) [3] [n64 ((now-o.asked))] [(nb,0,1),(w.heap.size,11,1)] [.code [1,1]] [⟨nb,3,false,[i6 now]⟩,⟨w.heap.size,141,true,(mlt_v1 o)⟩] [] (w.heap.size+1) ?_
 refine hrt [] [.bool (decide (((now-o.asked):Int)>=8))] [] ?_
 intro wx hm
 exact⟨rfl,hm.kept⟩
def man_v1(o:OneM):List Value:=(mag_v1 o)
def man_v2(lf:Int)(lt:Int)(lid:Int)(sy:SayR):List Value:=[i6 lf,i6 lt,i6 lid,.bool true]++rp 8 (i6 0)++[sT ⟨#[]⟩,i6 sy.st,i6 sy.ep,i6 sy.ou,.bool sy.rc.used,i6 sy.rc.fence,i6 sy.rc.de,i6 sy.rc.ds,sT sy.rc.block,.bool sy.rc.op,i6 sy.rc.ie,i6 sy.rc.is,i6 sy.rc.mask,sT sy.rc.staged]
theorem okman_any{sy:SayR}(o:OneM)(lf lt lid:Int)(nb:Nat)(w:World)(hn:Blk w nb 65 [i6 lf,i6 lt,i6 lid,.bool true,i6 0,i6 0,i6 0,i6 0,i6 0,i6 0,i6 0,i6 0,sT ⟨#[]⟩,i6 sy.st,i6 sy.ep,i6 sy.ou,.bool sy.rc.used,i6 sy.rc.fence,i6 sy.rc.de,i6 sy.rc.ds,sT sy.rc.block,.bool sy.rc.op,i6 sy.rc.ie,i6 sy.rc.is,i6 sy.rc.mask,sT sy.rc.staged]) :
  Calls Tryz.prog 72 #[.agg #[i6 o.to,i6 o.id,i6 o.q.kind,i6 o.q.stripe,i6 o.q.epoch,i6 o.q.seq,i6 o.q.mask,i6 o.q.node,i6 o.q.oe,i6 o.q.os,sT o.q.block,i6 o.asked,i6 o.sent],.pointer (some ⟨nb,0,none⟩)] w (RetK (.bool ((o.id==lid)&&(o.to==lf))) w):=by
 refine cH (S:=(fun _=>False)) (n:=16) Tryz.func72 (MemOk.start (bk:=[⟨nb,65,false,(man_v2 lf lt lid sy)⟩]) (wn:=[]) (fun b hb=>by obtain rfl:=List.mem_singleton.1 hb; exact hn) (by simp) (by simp) (by simp)) ?_
 rcases Bool.eq_false_or_eq_true (o.id==lid)with d1|d1
 ·skip
  refine hgS 24 (dz 15 0x3101000910100191000102080010118000) [3] (rE 6 (eD d1)) [(w.heap.size,1,1),(nb,2,1),(w.heap.size,0,1),(nb,0,1)] [.code [1,1]] [⟨nb,65,false,(man_v2 lf lt lid sy)⟩,⟨w.heap.size,141,true,(man_v1 o)⟩] [] (w.heap.size+1) ?_
  refine hrt [] [.bool (o.to==lf)] [] ?_
  intro wx hm
  exact⟨by rw[d1]; rfl,hm.kept⟩
 ·skip
  refine hgS 24 (dz 15 0x400000000102080010118000) [3] (rE 6 (eD d1)) [(w.heap.size,1,1),(nb,2,1)] [.code [1,1]] [⟨nb,65,false,(man_v2 lf lt lid sy)⟩,⟨w.heap.size,141,true,(man_v1 o)⟩] [] (w.heap.size+1) ?_
  refine hrt [] [.bool false] [] ?_
  intro wx hm
  exact⟨by rw[d1]; rfl,hm.kept⟩
theorem meant_seq(w0:World)(c1 c2 cb nb cp n fo tN:Nat)(lN:List Value)(okf:OneM->Bool)(frm lst:Int)(A:Option Addr)(opn:List OneM)(hn:opn.length=n)(hn8:n<=1000)(hne:([c1,c2,nb]:List Nat).Nodup)(hcb:cb≠c1∧cb≠c2∧cb≠nb)
  (hfo:fo=60∨fo=92∨fo=72) (hok:∀(j:Nat)(o:OneM),opn[j]?=some o->∀wx:World,Blk wx nb tN lN->Calls Tryz.prog fo #[.agg #[i6 o.to,i6 o.id,i6 o.q.kind,i6 o.q.stripe,i6 o.q.epoch,i6 o.q.seq,i6 o.q.mask,i6 o.q.node,i6 o.q.oe,i6 o.q.os,sT o.q.block,i6 o.asked,i6 o.sent],.pointer (some ⟨nb,0,none⟩)] wx (RetK (.bool (okf o)) wx)) :
  SeqI 4 Tryz.prog 96 #[.pointer (some ⟨c1,0,none⟩),.pointer (some ⟨c2,0,none⟩)] (fun j:Nat=>#[i6 (j:Int)]) (MeantI w0 85 142 124 c1 c2 cb (.func (.func fo) #[] #[.pointer (some ⟨nb,0,none⟩)]) (fun W=>Blk W nb tN lN) frm lst A cp opn) (fun xs=>xs=meantL okf opn opn.length) (MeantSp okf opn) (MeantV okf opn):=by
 intro l J Jx W hInv hJ hJx hY h0
 have hI:=hInv _ _ h0
 have hc:=hI.hd rfl
 rw[hn]at hc
 refine callsIn_wide.2 (calls_of_holds (S:=(fun _=>False)) (l:=[.func (.yield l) #[] #[],.pointer (some ⟨c1,0,none⟩),.pointer (some ⟨c2,0,none⟩)]) (n:=26) (bk:=[⟨c1,85,false,[.pointer (some ⟨cb,0,none⟩)]⟩,⟨c2,142,false,[.func (.func fo) #[] #[.pointer (some ⟨nb,0,none⟩)]]⟩,⟨nb,tN,false,lN⟩,⟨cb,124,false,[i6 frm,i6 lst,.slice A n cp]⟩]) (wn:=[]) Tryz.func96 (body_of (by kernel_rfl)) rfl (by simp) (MemOk.start (by simpa using⟨hI.c1,hI.c2,hI.x,hc⟩) (by simp) (by simp at hne ⊢; omega) (by simp)) ?_)
 refine holds_go (f:=13) (hs:=[(oA 0 0 1),oh0,oh0,(oA 3 2 1),oh0,oh0]) [0,2,9,10,11] [] (show _=some (Res.mk [] (dupR [(c1,0,1),(cb,2,1)]) [.code [1,0],.blk 0] ⟨[(0,.func (.yield l) #[] #[]),(2,.pointer (some ⟨c2,0,none⟩)),(9,.slice A n cp),(10,i6 (n:Int)),(11,i6 0)],[⟨c1,85,false,[.pointer (some ⟨cb,0,none⟩)]⟩,⟨c2,142,false,[.func (.func fo) #[] #[.pointer (some ⟨nb,0,none⟩)]]⟩,⟨nb,tN,false,lN⟩,⟨cb,124,false,[i6 frm,i6 lst,.slice A n cp]⟩],[],W.heap.size⟩)by kernel_rfl) trivial ?_
 have hI0:=hInv _ _ h0
 refine holds_prune [0,2,9,10,11] [true,true,true,false] ?_
 refine holds_loopW (w:=w0) (S':=fun _=>True) (fun m st W1=>∃j z:Nat,m+j=n∧J (meantL okf opn j) W1∧st=⟨[(0,.func (.yield l) #[] #[]),(2,.pointer (some ⟨c2,0,none⟩)),(9,.slice A n cp),(10,i6 (n:Int)),(11,i6 (j:Int))],[⟨c1,85,false,[.pointer (some ⟨cb,0,none⟩)]⟩,⟨c2,142,false,[.func (.func fo) #[] #[.pointer (some ⟨nb,0,none⟩)]]⟩,⟨nb,tN,false,lN⟩],[],z⟩) n (by kernel_rfl) (fun W1 hm=>⟨⟨0,_,by omega,abides_none hJ h0 hm.kept,rfl⟩,by have h:=meant_mem (hInv _ _ (abides_none hJ h0 hm.kept)) hne; rwa [hm.size]at h⟩) ?_
 rintro m _ W1 ⟨j,z,hmj,hj1,rfl⟩ hm1 JL hJL
 have hI1:=hInv _ _ hj1
 have hnT:∀x,¬Turned [⟨c1,85,false,[.pointer (some ⟨cb,0,none⟩)]⟩,⟨c2,142,false,[.func (.func fo) #[] #[.pointer (some ⟨nb,0,none⟩)]]⟩,⟨nb,tN,false,lN⟩] x:=by
  rintro x ⟨b,hb,hr,he⟩
  simp at hb
  rcases hb with rfl|rfl|rfl<;>simp at hr
 by_cases h1:j<n
 rotate_left
 ·skip
  refine holds_go (f:=10) (hs:=[oh0,oh0]) [] [] (show _=some (Res.mk [(decide (((j:Int):Int)<(n:Int)))=false] (dupR []) [] ⟨[],[⟨c1,85,false,[.pointer (some ⟨cb,0,none⟩)]⟩,⟨c2,142,false,[.func (.func fo) #[] #[.pointer (some ⟨nb,0,none⟩)]]⟩,⟨nb,tN,false,lN⟩],[],W1.heap.size⟩)by kernel_rfl) ⟨decide_eq_false (by omega),trivial⟩ ?_
  refine holds_end [] (show _=some ([],dupR [])by kernel_rfl) ?_
  intro wx hm
  have hjn:j=opn.length:=by omega
  rw[hjn]at hj1
  exact⟨⟨_,rfl⟩,.inl ⟨_,rfl,abides_none hJ hj1 (hm.kept.mono (fun x _ h=>(hnT x h).elim))⟩⟩
 obtain⟨o,ho⟩:∃o,opn[j]?=some o:=⟨_,List.getElem?_eq_getElem (by omega)⟩
 obtain⟨ga,hA,hg,hcell⟩:=hI1.arr j o ho meantL_lt
 subst hA
 refine holds_wins [⟨ga,0+j*13,o.cells⟩] (fun _ y hy=>?_) ?_
 ·simp only[List.mem_cons,List.not_mem_nil,or_false]at hy
  subst hy
  exact⟨hnT _,hg,fun i v hv=>hcell i v hv⟩
 refine holds_codeY 4 ?_
 intro J3 Qn hJ3 hQ3
 refine holdsR_go (fun _=>trivial) (f:=25) (hs:=[oh0,oh1,oh0,⟨false,1,[]⟩,⟨false,0,[⟨true,0,0,13⟩]⟩,oh0,oh0,(oA 3 0 13),(oA 1 0 1),(oA 3 0 13)]) [0,2,4,9,10,11,16,17] [] (show _=some (Res.mk [(decide (((j:Int):Int)<(n:Int)))=true,(0:Int)<=(j:Int)∧(j:Int)<((n:Nat):Int)] (dupR [(ga,0+j*13,13),(W1.heap.size,0,13),(c2,0,1),(W1.heap.size,0,13)]) [.ops [1,0,0,1,1,0,0,1,0] [2,3,4,5,6,7,8],.code [1,0,0,1,1,0,0,1,1],.blk 1,.code [1,0,0,1,1,1],.inv J3] ⟨[(0,.func (.yield l) #[] #[]),(2,.pointer (some ⟨c2,0,none⟩)),(4,i6 (j:Int)),(9,.slice (some ⟨ga,0,none⟩) n cp),(10,i6 (n:Int)),(11,i6 (j:Int)),(16,.func (.func fo) #[] #[.pointer (some ⟨nb,0,none⟩)]),(17,.agg #[i6 o.to,i6 o.id,i6 o.q.kind,i6 o.q.stripe,i6 o.q.epoch,i6 o.q.seq,i6 o.q.mask,i6 o.q.node,i6 o.q.oe,i6 o.q.os,sT o.q.block,i6 o.asked,i6 o.sent])],[⟨c1,85,false,[.pointer (some ⟨cb,0,none⟩)]⟩,⟨c2,142,false,[.func (.func fo) #[] #[.pointer (some ⟨nb,0,none⟩)]]⟩,⟨nb,tN,false,lN⟩,⟨W1.heap.size,141,true,[i6 o.to,i6 o.id,i6 o.q.kind,i6 o.q.stripe,i6 o.q.epoch,i6 o.q.seq,i6 o.q.mask,i6 o.q.node,i6 o.q.oe,i6 o.q.os,sT o.q.block,i6 o.asked,i6 o.sent]⟩],[⟨ga,0+j*13,[i6 o.to,i6 o.id,i6 o.q.kind,i6 o.q.stripe,i6 o.q.epoch,i6 o.q.seq,i6 o.q.mask,i6 o.q.node,i6 o.q.oe,i6 o.q.os,sT o.q.block,i6 o.asked,i6 o.sent]⟩],W1.heap.size+1⟩)by kernel_rfl) ⟨decide_eq_true (by omega),⟨by omega,by omega⟩,trivial⟩ ?_
 refine holdsR_op (r:=none) (by kernel_rfl) ?_
 intro J4 hJ4
 refine holds_callP (.bool (okf o)) (show _=some (fo,[.agg #[i6 o.to,i6 o.id,i6 o.q.kind,i6 o.q.stripe,i6 o.q.epoch,i6 o.q.seq,i6 o.q.mask,i6 o.q.node,i6 o.q.oe,i6 o.q.os,sT o.q.block,i6 o.asked,i6 o.sent],.pointer (some ⟨nb,0,none⟩)],some 18,[])by rcases hfo with h_|h_|h_<;>subst h_<;>kernel_rfl) tI rfl (fun wx hm=>hok j o ho wx (hm.at_ 2 rfl)) fun z5 hz5=>?_
 replace hz5:W1.heap.size+1<=z5:=hz5
 refine holds_opsNil ?_
 refine hJ4 _ _ _ ?_
 rcases Bool.eq_false_or_eq_true (okf o)with d1|d1
 rotate_left
 ·skip
  refine holdsR_go (fun _=>trivial) (f:=17) (hs:=[oh0,oh0,oh0,oh0,oh0,⟨false,3,[]⟩,oh0,⟨false,1,[]⟩,oh0]) [0,2,9,10,11] [] (show _=some (Res.mk [(okf o)=false,(okf o)=false,(okf o)=false,(okf o)=false,(okf o)=false,false=false,inR .i64 (((j:Int)+1))] (dupR []) [.inv J3] ⟨[(0,.func (.yield l) #[] #[]),(2,.pointer (some ⟨c2,0,none⟩)),(9,.slice (some ⟨ga,0,none⟩) n cp),(10,i6 (n:Int)),(11,i6 ((j:Int)+1))],[⟨c1,85,false,[.pointer (some ⟨cb,0,none⟩)]⟩,⟨c2,142,false,[.func (.func fo) #[] #[.pointer (some ⟨nb,0,none⟩)]]⟩,⟨nb,tN,false,lN⟩,⟨W1.heap.size,141,true,[i6 o.to,i6 o.id,i6 o.q.kind,i6 o.q.stripe,i6 o.q.epoch,i6 o.q.seq,i6 o.q.mask,i6 o.q.node,i6 o.q.oe,i6 o.q.os,sT o.q.block,i6 o.asked,i6 o.sent]⟩],[⟨ga,0+j*13,[i6 o.to,i6 o.id,i6 o.q.kind,i6 o.q.stripe,i6 o.q.epoch,i6 o.q.seq,i6 o.q.mask,i6 o.q.node,i6 o.q.oe,i6 o.q.os,sT o.q.block,i6 o.asked,i6 o.sent]⟩],z5⟩)by kernel_rfl) ⟨d1,d1,d1,d1,d1,rfl,in64 (by omega),trivial⟩ ?_
  refine hJ3 _ _ _ ?_
  refine holds_go (f:=3) (hs:=[]) [0,2,9,10,11] [] (show _=some (Res.mk [] (dupR []) [.inv JL,.blk 0] ⟨[(0,.func (.yield l) #[] #[]),(2,.pointer (some ⟨c2,0,none⟩)),(9,.slice (some ⟨ga,0,none⟩) n cp),(10,i6 (n:Int)),(11,i6 ((j:Int)+1))],[⟨c1,85,false,[.pointer (some ⟨cb,0,none⟩)]⟩,⟨c2,142,false,[.func (.func fo) #[] #[.pointer (some ⟨nb,0,none⟩)]]⟩,⟨nb,tN,false,lN⟩,⟨W1.heap.size,141,true,[i6 o.to,i6 o.id,i6 o.q.kind,i6 o.q.stripe,i6 o.q.epoch,i6 o.q.seq,i6 o.q.mask,i6 o.q.node,i6 o.q.oe,i6 o.q.os,sT o.q.block,i6 o.asked,i6 o.sent]⟩],[⟨ga,0+j*13,[i6 o.to,i6 o.id,i6 o.q.kind,i6 o.q.stripe,i6 o.q.epoch,i6 o.q.seq,i6 o.q.mask,i6 o.q.node,i6 o.q.oe,i6 o.q.os,sT o.q.block,i6 o.asked,i6 o.sent]⟩],z5⟩)by kernel_rfl) trivial ?_
  refine holds_wins [] (fun _ _ h=>by cases h) ?_
  refine holds_prune [0,2,9,10,11] [true,true,true,false] ?_
  intro a_ w4 hf hm
  have hk4:Kept (fun _=>False) W1 w4:=hm.kept.mono (fun x _ h=>(hnT x h).elim)
  have hj4:J (meantL okf opn (j+1)) w4:=by rw[meantL_succ ho,d1]; exact abides_none hJ hj1 hk4
  exact hJL (m-1) _ a_ w4 (by omega) ⟨j+1,_,by omega,hj4,by rw[<-cast_succ j]; rfl⟩ hf (by have h:=meant_mem (hInv _ _ hj4) hne; rw[hm.size]at h; exact h)
 refine holdsR_go (fun _=>trivial) (f:=6) (hs:=[oh0,oh1,oh1]) [0,2,9,10,11,19,20,21] [] (show _=some (Res.mk [(okf o)=true,(okf o)=true] (dupR []) [.ops [1,0,0,1,1,0,0,1,0] [6,7,8],.code [1,0,0,1,1,0,0,1,1],.blk 1,.code [1,0,0,1,1,1],.inv J3] ⟨[(0,.func (.yield l) #[] #[]),(2,.pointer (some ⟨c2,0,none⟩)),(9,.slice (some ⟨ga,0,none⟩) n cp),(10,i6 (n:Int)),(11,i6 (j:Int)),(19,.bool (okf o)),(20,.func (.yield l) #[] #[]),(21,i6 (j:Int))],[⟨c1,85,false,[.pointer (some ⟨cb,0,none⟩)]⟩,⟨c2,142,false,[.func (.func fo) #[] #[.pointer (some ⟨nb,0,none⟩)]]⟩,⟨nb,tN,false,lN⟩,⟨W1.heap.size,141,true,[i6 o.to,i6 o.id,i6 o.q.kind,i6 o.q.stripe,i6 o.q.epoch,i6 o.q.seq,i6 o.q.mask,i6 o.q.node,i6 o.q.oe,i6 o.q.os,sT o.q.block,i6 o.asked,i6 o.sent]⟩],[⟨ga,0+j*13,[i6 o.to,i6 o.id,i6 o.q.kind,i6 o.q.stripe,i6 o.q.epoch,i6 o.q.seq,i6 o.q.mask,i6 o.q.node,i6 o.q.oe,i6 o.q.os,sT o.q.block,i6 o.asked,i6 o.sent]⟩],z5⟩)by kernel_rfl) ⟨d1,d1,trivial⟩ ?_
 refine holdsR_yield (l:=[7,8]) (dst:=some 22) (lp:=l) (args:=#[i6 (j:Int)]) (c:=true) (gd:=(some 3)) (fun _=>trivial) rfl (by kernel_rfl) (by kernel_rfl) (by intro j hj; cases hj; exact congrArg (fun b=>some (Value.bool b)) d1) (fun _=>rfl) (fun wx hm=>?_)
 have hk4:Kept (fun _=>False) W1 wx:=hm.kept.mono (fun x _ h=>(hnT x h).elim)
 refine YieldAt.mono (hY (meantL okf opn j) j wx (abides_none hJ hj1 hk4) ⟨o,ho,d1,rfl⟩) (fun e W2 he=>?_)
 rcases he with⟨rfl,g1⟩|⟨rfl,g1⟩
 ·skip
  have hI2:=hInv _ _ g1
  refine⟨.bool true,[(22,.bool true),(0,.func (.yield l) #[] #[]),(2,.pointer (some ⟨c2,0,none⟩)),(9,.slice (some ⟨ga,0,none⟩) n cp),(10,i6 (n:Int)),(11,i6 (j:Int)),(19,.bool (okf o)),(20,.func (.yield l) #[] #[]),(21,i6 (j:Int))],rfl,rfl,[⟨c1,85,false,[.pointer (some ⟨cb,0,none⟩)]⟩,⟨c2,142,false,[.func (.func fo) #[] #[.pointer (some ⟨nb,0,none⟩)]]⟩,⟨nb,tN,false,lN⟩],[],(fun _=>False),MemOk.start (by simpa using⟨hI2.c1,hI2.c2,hI2.x⟩) (by simp) (by simpa using hne) (by simp),?_⟩
  refine holdsR_go (fun _=>trivial) (f:=13) (hs:=[oh1,⟨false,2,[]⟩,oh0,⟨false,1,[]⟩,oh0]) [0,2,9,10,11] [] (show _=some (Res.mk [(okf o)=true,(okf o)=true,false=false,inR .i64 (((j:Int)+1))] (dupR []) [.inv J3] ⟨[(0,.func (.yield l) #[] #[]),(2,.pointer (some ⟨c2,0,none⟩)),(9,.slice (some ⟨ga,0,none⟩) n cp),(10,i6 (n:Int)),(11,i6 ((j:Int)+1))],[⟨c1,85,false,[.pointer (some ⟨cb,0,none⟩)]⟩,⟨c2,142,false,[.func (.func fo) #[] #[.pointer (some ⟨nb,0,none⟩)]]⟩,⟨nb,tN,false,lN⟩],[],W2.heap.size⟩)by kernel_rfl) ⟨d1,d1,rfl,in64 (by omega),trivial⟩ ?_
  refine hJ3 _ _ _ ?_
  refine holds_go (f:=3) (hs:=[]) [0,2,9,10,11] [] (show _=some (Res.mk [] (dupR []) [.inv JL,.blk 0] ⟨[(0,.func (.yield l) #[] #[]),(2,.pointer (some ⟨c2,0,none⟩)),(9,.slice (some ⟨ga,0,none⟩) n cp),(10,i6 (n:Int)),(11,i6 ((j:Int)+1))],[⟨c1,85,false,[.pointer (some ⟨cb,0,none⟩)]⟩,⟨c2,142,false,[.func (.func fo) #[] #[.pointer (some ⟨nb,0,none⟩)]]⟩,⟨nb,tN,false,lN⟩],[],W2.heap.size⟩)by kernel_rfl) trivial ?_
  intro a_ w4 hf hm
  have hj4:J (meantL okf opn (j+1)) w4:=by rw[meantL_succ ho,d1]; exact abides_none hJ g1 hm.kept
  exact hJL (m-1) _ a_ w4 (by omega) ⟨j+1,_,by omega,hj4,by rw[<-cast_succ j]⟩ hf (by have h:=meant_mem (hInv _ _ hj4) hne; rw[hm.size]at h; exact h)
 ·skip
  refine⟨.bool false,[(22,.bool false),(0,.func (.yield l) #[] #[]),(2,.pointer (some ⟨c2,0,none⟩)),(9,.slice (some ⟨ga,0,none⟩) n cp),(10,i6 (n:Int)),(11,i6 (j:Int)),(19,.bool (okf o)),(20,.func (.yield l) #[] #[]),(21,i6 (j:Int))],rfl,rfl,[],[],(fun _=>False),MemOk.none _ _,?_⟩
  refine holdsR_go (fun _=>trivial) (f:=7) (hs:=[oh1,⟨false,2,[]⟩,oh1]) [0,2,9,10,11] [] (show _=some (Res.mk [(okf o)=true,(okf o)=true,true=true] (dupR []) [.code [1,0,0,1,1,0,0,1,1,0],.blk 1,.code [1,0,0,1,1,1],.inv J3] ⟨[(0,.func (.yield l) #[] #[]),(2,.pointer (some ⟨c2,0,none⟩)),(9,.slice (some ⟨ga,0,none⟩) n cp),(10,i6 (n:Int)),(11,i6 (j:Int))],[],[],W2.heap.size⟩)by kernel_rfl) ⟨d1,d1,rfl,trivial⟩ ?_
  refine holdsR_ret (by kernel_rfl) (fun a_ w4 hf hm=>hQ3 _ _ ?_)
  exact⟨hf.df,_,results_of (vs:=[]) (rs:=[]) (hs:=[]) hf hm (by kernel_rfl),⟨_,rfl⟩,.inr ⟨_,⟨j,o,ho,d1,rfl⟩,abides_none hJx g1 hm.kept⟩⟩
theorem meantAgain_seq(w0:World)(c1 c2 cb nb cp n:Nat)(frm lst now:Int)(A:Option Addr)(opn:List OneM)(hn:opn.length=n)(hn8:n<=1000)(hne:([c1,c2,nb]:List Nat).Nodup)(hcb:cb≠c1∧cb≠c2∧cb≠nb)(hbd:∀(j:Nat)(o:OneM),opn[j]?=some o->-9223372036854775808<=now-o.sent∧now-o.sent<=9223372036854775807) :
  SeqI 4 Tryz.prog 96 #[.pointer (some ⟨c1,0,none⟩),.pointer (some ⟨c2,0,none⟩)] (fun j:Nat=>#[i6 (j:Int)]) (MeantI w0 85 142 124 c1 c2 cb (.func (.func 60) #[] #[.pointer (some ⟨nb,0,none⟩)]) (fun W=>Blk W nb 3 [i6 now]) frm lst A cp opn) (fun xs=>xs=meantL (fun o:OneM=>decide (now-o.sent>=2)) opn opn.length) (MeantSp (fun o:OneM=>decide (now-o.sent>=2)) opn) (MeantV (fun o:OneM=>decide (now-o.sent>=2)) opn):=
 meant_seq w0 c1 c2 cb nb cp n 60 3 _ _ frm lst A opn hn hn8 hne hcb (by decide) (fun j o ho wx hB=>okmag_any o now nb (hbd j o ho) wx hB)
theorem meantLate_seq(w0:World)(c1 c2 cb nb cp n:Nat)(frm lst now:Int)(A:Option Addr)(opn:List OneM)(hn:opn.length=n)(hn8:n<=1000)(hne:([c1,c2,nb]:List Nat).Nodup)(hcb:cb≠c1∧cb≠c2∧cb≠nb)(hbd:∀(j:Nat)(o:OneM),opn[j]?=some o->-9223372036854775808<=now-o.asked∧now-o.asked<=9223372036854775807) :
  SeqI 4 Tryz.prog 96 #[.pointer (some ⟨c1,0,none⟩),.pointer (some ⟨c2,0,none⟩)] (fun j:Nat=>#[i6 (j:Int)]) (MeantI w0 85 142 124 c1 c2 cb (.func (.func 92) #[] #[.pointer (some ⟨nb,0,none⟩)]) (fun W=>Blk W nb 3 [i6 now]) frm lst A cp opn) (fun xs=>xs=meantL (fun o:OneM=>decide (now-o.asked>=8)) opn opn.length) (MeantSp (fun o:OneM=>decide (now-o.asked>=8)) opn) (MeantV (fun o:OneM=>decide (now-o.asked>=8)) opn):=
 meant_seq w0 c1 c2 cb nb cp n 92 3 _ _ frm lst A opn hn hn8 hne hcb (by decide) (fun j o ho wx hB=>okmlt_any o now nb (hbd j o ho) wx hB)
theorem meantAnswer_seq{sy:SayR}(w0:World)(c1 c2 cb nb cp n:Nat)(frm lst lf lt lid:Int)(A:Option Addr)(opn:List OneM)(hn:opn.length=n)(hn8:n<=1000)(hne:([c1,c2,nb]:List Nat).Nodup)(hcb:cb≠c1∧cb≠c2∧cb≠nb) :
  SeqI 4 Tryz.prog 96 #[.pointer (some ⟨c1,0,none⟩),.pointer (some ⟨c2,0,none⟩)] (fun j:Nat=>#[i6 (j:Int)]) (MeantI w0 85 142 124 c1 c2 cb (.func (.func 72) #[] #[.pointer (some ⟨nb,0,none⟩)]) (fun W=>Blk W nb 65 [i6 lf,i6 lt,i6 lid,.bool true,i6 0,i6 0,i6 0,i6 0,i6 0,i6 0,i6 0,i6 0,sT ⟨#[]⟩,i6 sy.st,i6 sy.ep,i6 sy.ou,.bool sy.rc.used,i6 sy.rc.fence,i6 sy.rc.de,i6 sy.rc.ds,sT sy.rc.block,.bool sy.rc.op,i6 sy.rc.ie,i6 sy.rc.is,i6 sy.rc.mask,sT sy.rc.staged]) frm lst A cp opn) (fun xs=>xs=meantL (fun o:OneM=>(o.id==lid)&&(o.to==lf)) opn opn.length) (MeantSp (fun o:OneM=>(o.id==lid)&&(o.to==lf)) opn) (MeantV (fun o:OneM=>(o.id==lid)&&(o.to==lf)) opn):=
 meant_seq w0 c1 c2 cb nb cp n 72 65 _ _ frm lst A opn hn hn8 hne hcb (by decide) (fun _ o _ wx hB=>okman_any o lf lt lid nb wx hB)
theorem meant_fn(cb nb fo:Nat)(w:World) :
  Calls Tryz.prog 59 #[.pointer (some ⟨cb,0,none⟩),.func (.func fo) #[] #[.pointer (some ⟨nb,0,none⟩)]] w (fun e w'=>∃c1 c2,e=.returned (.func (.func 96) #[] #[.pointer (some ⟨c1,0,none⟩),.pointer (some ⟨c2,0,none⟩)])∧w.heap.size<=c1∧c1<c2∧Blk w' c1 85 [.pointer (some ⟨cb,0,none⟩)]∧Blk w' c2 142 [.func (.func fo) #[] #[.pointer (some ⟨nb,0,none⟩)]]∧Kept (fun _=>False) w w'):=by
 refine cH (S:=(fun _=>False)) (n:=6) Tryz.func59 (MemOk.none w _) ?_
 refine hgS 14 (dz 5 0) [4] [] [] [.code [1,1]] [⟨w.heap.size,85,true,[(pt cb 0)]⟩,⟨w.heap.size+1,142,true,[.func (.func fo) #[] #[(pt nb 0)]]⟩] [] (w.heap.size+2) ?_
 refine hrt [] [.func (.func 96) #[] #[(pt w.heap.size 0),(pt (w.heap.size+1) 0)]] [] ?_
 intro wx hm
 exact⟨w.heap.size,(w.heap.size+1),rfl,by omega,by omega,hm.at_ 0 rfl,hm.at_ 1 rfl,hm.kept⟩
end Go.Proofs.YtcmpkkapkdlfhaaGreat
namespace Go.Proofs.YtcmpkkapkdlfhaaGreat
open Go.RowKit
structure LeaC where
  has:Bool
  (ep ou sq sc:Int)
def LeaC.cells(l:LeaC):List Value:=[.bool l.has,.int .i64 l.ep,.int .i64 l.ou,.int .i64 l.sq,.int .i64 l.sc]
def lea0:LeaC:=⟨false,0,0,0,0⟩
structure PilC where
  lb:Nat
  (N S:Int)
  cb:Nat
  lv:Nat->LeaC
  busy:Bool
  (kd at_:Int)
  da:ByteArray
  (sn cn:Int)
  nx:Value
  lg:Bool
  (en ep ou:Int)
  db:Bool
  (te ts:Int)
  (kn rc:Value)
  stl:Bool
  (rd wr:Value)
  bl:Nat->ByteArray
  (ud ak:Value)
  er:Int
  dt:ByteArray
  ed:Int
def PilC.cells(x:PilC):List Value:=
  [.int .i64 x.N,.int .i64 x.S,.pointer (some ⟨x.cb,0,none⟩),
   .bool (x.lv 0).has,.int .i64 (x.lv 0).ep,.int .i64 (x.lv 0).ou,.int .i64 (x.lv 0).sq,.int .i64 (x.lv 0).sc,
   .bool (x.lv 1).has,.int .i64 (x.lv 1).ep,.int .i64 (x.lv 1).ou,.int .i64 (x.lv 1).sq,.int .i64 (x.lv 1).sc,
   .bool (x.lv 2).has,.int .i64 (x.lv 2).ep,.int .i64 (x.lv 2).ou,.int .i64 (x.lv 2).sq,.int .i64 (x.lv 2).sc,
   .bool (x.lv 3).has,.int .i64 (x.lv 3).ep,.int .i64 (x.lv 3).ou,.int .i64 (x.lv 3).sq,.int .i64 (x.lv 3).sc,
   .bool (x.lv 4).has,.int .i64 (x.lv 4).ep,.int .i64 (x.lv 4).ou,.int .i64 (x.lv 4).sq,.int .i64 (x.lv 4).sc,
   .bool (x.lv 5).has,.int .i64 (x.lv 5).ep,.int .i64 (x.lv 5).ou,.int .i64 (x.lv 5).sq,.int .i64 (x.lv 5).sc,
   .bool (x.lv 6).has,.int .i64 (x.lv 6).ep,.int .i64 (x.lv 6).ou,.int .i64 (x.lv 6).sq,.int .i64 (x.lv 6).sc,
   .bool (x.lv 7).has,.int .i64 (x.lv 7).ep,.int .i64 (x.lv 7).ou,.int .i64 (x.lv 7).sq,.int .i64 (x.lv 7).sc,
   .bool x.busy,.int .i64 x.kd,.int .i64 x.at_,.string x.da,.int .i64 x.sn,.int .i64 x.cn,x.nx,.bool x.lg,.int .i64 x.en,.int .i64 x.ep,.int .i64 x.ou,.bool x.db,.int .i64 x.te,.int .i64 x.ts,
   x.kn,x.rc,.bool x.stl,x.rd,x.wr,.string (x.bl 0),.string (x.bl 1),.string (x.bl 2),.string (x.bl 3),.string (x.bl 4),.string (x.bl 5),x.ud,x.ak,.int .i64 x.er,.string x.dt,.int .i64 x.ed]
def PilC.setL(x:PilC)(i:Nat)(l:LeaC):PilC:={ x with lv:=fun j=>if j=i then l else x.lv j }
def PilC.setB(x:PilC)(i:Nat)(s:ByteArray):PilC:={ x with bl:=fun j=>if j=i then s else x.bl j }
theorem pil_lease(x:PilC){i:Nat}(hi:i<8){j:Nat}{v:Value}(h:(x.lv i).cells[j]?=some v):x.cells[3+i*5+j]?=some v:=by
  have hj:j<5:=(List.getElem?_eq_some_iff.1 h).1
  match i,hi,j,hj,h with
  |0,_,0,_,h|0,_,1,_,h|0,_,2,_,h|0,_,3,_,h|0,_,4,_,h=>exact h
  |1,_,0,_,h|1,_,1,_,h|1,_,2,_,h|1,_,3,_,h|1,_,4,_,h=>exact h
  |2,_,0,_,h|2,_,1,_,h|2,_,2,_,h|2,_,3,_,h|2,_,4,_,h=>exact h
  |3,_,0,_,h|3,_,1,_,h|3,_,2,_,h|3,_,3,_,h|3,_,4,_,h=>exact h
  |4,_,0,_,h|4,_,1,_,h|4,_,2,_,h|4,_,3,_,h|4,_,4,_,h=>exact h
  |5,_,0,_,h|5,_,1,_,h|5,_,2,_,h|5,_,3,_,h|5,_,4,_,h=>exact h
  |6,_,0,_,h|6,_,1,_,h|6,_,2,_,h|6,_,3,_,h|6,_,4,_,h=>exact h
  |7,_,0,_,h|7,_,1,_,h|7,_,2,_,h|7,_,3,_,h|7,_,4,_,h=>exact h
theorem pil_setL(x:PilC){i:Nat}(hi:i<8)(l:LeaC):x.cells.take (3+i*5)++l.cells++x.cells.drop (3+i*5+5)=(x.setL i l).cells:=by
  match i,hi with
  |0,_|1,_|2,_|3,_|4,_|5,_|6,_|7,_=>rfl
theorem pil_setSq(x:PilC){i:Nat}(hi:i<8)(n:Int):x.cells.take (3+i*5+3)++[.int .i64 n]++x.cells.drop (3+i*5+3+1)=({ x with lv:=fun j=>if j=i then{ x.lv i with sq:=n }else x.lv j }:PilC).cells:=by
  match i,hi with
  |0,_|1,_|2,_|3,_|4,_|5,_|6,_|7,_=>rfl
theorem pil_block(x:PilC){i:Nat}(hi:i<6):x.cells[62+i]?=some (.string (x.bl i)):=by
  match i,hi with
  |0,_|1,_|2,_|3,_|4,_|5,_=>rfl
theorem pil_setB(x:PilC){i:Nat}(hi:i<6)(s:ByteArray):x.cells.take (62+i)++[.string s]++x.cells.drop (62+i+1)=(x.setB i s).cells:=by
  match i,hi with
  |0,_|1,_|2,_|3,_|4,_|5,_=>rfl
theorem run_newOwn{P:Program}(w:World)(t e:TypeId)(zv:Value)(z n b:Nat)(cs:List Value)(ht:P.underlying t=some (.slice e))(hi:(P.info? e).map (fun i=>(i.zero,i.size,i.bytes))=some (some zv,z,b))(hc:(madeCells zv.cells (n*z)).toList=cs)(hl:cs.length=n*z)(hb:b<=1000)(hn:n<=1000) :
    ∃w',(Instr.makeSlice t (.int .i64 (n:Int)) (.int .i64 (n:Int))).run P w=.ok (.slice (some ⟨w.heap.size,0,none⟩) n n) w'∧OwnR w' w.heap.size e z (some ⟨w.heap.size,0,none⟩) n n cs∧Kept (fun _=>False) w w':=by
  obtain⟨inf,hi1,hi2⟩:=Option.map_eq_some_iff.1 hi
  simp only[Prod.mk.injEq]at hi2
  obtain⟨hz,hs,hby⟩:=hi2
  have hbn:b*n<=1000*1000:=Nat.mul_le_mul hb hn
  have h1:=run_make (P:=P) w t e inf zv ht hi1 hz .i64 .i64 (n:Int) (n:Int) (by omega) (Int.le_refl _) (by rw[hby]; have h5:((b*n:Nat):Int)<=((1000*1000:Nat):Int):=Int.ofNat_le.2 hbn; rw[Int.natCast_mul]at h5; omega) (by omega)
  simp only[Int.toNat_natCast,hs]at h1
  refine⟨_,h1,?_,(Kept.refl _ w).alloc _⟩
  have h2:=Blk.new w e (madeCells zv.cells (n*z)).toList
  rw[Array.toArray_toList,hc]at h2
  exact ownR_of (r:=[]) (Nat.le_refl _) (by rw[List.append_nil]; exact h2) (Nat.le_refl _) (by simp only[maxLen]; omega) hl (by rw[List.append_nil]; exact hl)
theorem store_to{P:Program}{w:World}{t:TypeId}{g o n:Nat}{tt:TypeId}{cs cs':List Value}{v:Value}(hs:(P.info? t).map (·.size)=some n)(hB:Blk w g tt cs)(hn:v.cells.size=n)(hle:o+n<=cs.length)(hone:∀u∈v.cells.toList,u.oneCell'=true)(he:cs.take o++v.cells.toList++cs.drop (o+n)=cs') :
    ∃w',(Instr.storeAt t (.pointer (some ⟨g,o,none⟩)) v).run P w=.ok () w'∧Blk w' g tt cs'∧Kept (fun x=>x=g) w w'∧w'.heap.size=w.heap.size:=by
  subst he hn
  exact⟨_,run_storeG w t g o tt cs v hs hB hle hone,setRow_blk hB _,setRow_kept w g _,setRow_size _ _ _⟩
theorem own_blk{w:World}{base g:Nat}{e:TypeId}{z:Nat}{cs:List Value}(h:OwnR w base e z (some ⟨g,0,none⟩) 1 1 cs):Blk w g e cs:=by
  have hl:=h.len
  rcases h.blk with⟨h0,_⟩|⟨g',r,h0,hb,hB,hn,hc,hz⟩
  · cases h0
  · cases h0
    have:r=[]:=by
      rw[List.length_append]at hz
      exact List.length_eq_zero_iff.1 (by omega)
    subst this
    simpa using hB
theorem blk_own{w:World}{base g:Nat}{e:TypeId}{z:Nat}{cs:List Value}(hb:base<=g)(h:Blk w g e cs)(hl:cs.length=z):OwnR w base e z (some ⟨g,0,none⟩) 1 1 cs:=
  ownR_of (r:=[]) hb (by rw[List.append_nil]; exact h) (Nat.le_refl _) (by simp only[maxLen]; omega) (by omega) (by rw[List.append_nil]; omega)
theorem ownS_some{g:Nat}:∀y,ownS (some ⟨g,0,none⟩) y->y=g:=fun _ ⟨_,h,e⟩=>by cases h; exact e
def updC(st mk e s:Int)(P:Value)(bg:Bool):List Value:=[.int .i64 st,.int .i64 mk,.int .i64 e,.int .i64 s,P,.bool bg,.bool false]
def boolC(b:Bool):List Value:=[.bool b]
theorem own_cell{w:World}{base g:Nat}{e:TypeId}{z n cp:Nat}{cs:List Value}(h:OwnR w base e z (some ⟨g,0,none⟩) n cp cs){j:Nat}{v:Value}(hj:cs[j]?=some v):w.cell? ⟨g,j,none⟩=some v:=by
  obtain⟨g',h3,_,_,h4⟩:=h.cell hj
  cases h3
  exact h4
theorem flat_bools(b:Bool):∀n:Nat,flatV boolC (List.replicate n b)=List.replicate n (.bool b)
  |0=>rfl
  |n+1=>by
    rw[List.replicate_succ,List.replicate_succ,<-flat_bools b n]
    rfl
def recZ:RecM:=⟨false,0,0,0,⟨#[]⟩,false,0,0,0,⟨#[]⟩⟩
theorem made_bools3:(madeCells (Value.bool false).cells (3*1)).toList=flatV boolC (List.replicate 3 false):=by kernel_rfl
theorem made_bools4:(madeCells (Value.bool false).cells (4*1)).toList=flatV boolC (List.replicate 4 false):=by kernel_rfl
theorem made_bools5:(madeCells (Value.bool false).cells (5*1)).toList=flatV boolC (List.replicate 5 false):=by kernel_rfl
theorem made_bools6:(madeCells (Value.bool false).cells (6*1)).toList=flatV boolC (List.replicate 6 false):=by kernel_rfl
theorem made_bools{n:Nat}(h3:3<=n)(h:n<=6):(madeCells (Value.bool false).cells (n*1)).toList=flatV boolC (List.replicate n false):=by
  match n,h3,h with
  |3,_,_=>exact made_bools3
  |4,_,_=>exact made_bools4
  |5,_,_=>exact made_bools5
  |6,_,_=>exact made_bools6
theorem made_recs3:(madeCells (Value.agg #[.bool false,.int .i64 0,.int .i64 0,.int .i64 0,.string ⟨#[]⟩,.bool false,.int .i64 0,.int .i64 0,.int .i64 0,.string ⟨#[]⟩]).cells (3*10)).toList=flatV RecM.cells (List.replicate 3 recZ):=by kernel_rfl
theorem made_recs4:(madeCells (Value.agg #[.bool false,.int .i64 0,.int .i64 0,.int .i64 0,.string ⟨#[]⟩,.bool false,.int .i64 0,.int .i64 0,.int .i64 0,.string ⟨#[]⟩]).cells (4*10)).toList=flatV RecM.cells (List.replicate 4 recZ):=by kernel_rfl
theorem made_recs5:(madeCells (Value.agg #[.bool false,.int .i64 0,.int .i64 0,.int .i64 0,.string ⟨#[]⟩,.bool false,.int .i64 0,.int .i64 0,.int .i64 0,.string ⟨#[]⟩]).cells (5*10)).toList=flatV RecM.cells (List.replicate 5 recZ):=by kernel_rfl
theorem made_recs6:(madeCells (Value.agg #[.bool false,.int .i64 0,.int .i64 0,.int .i64 0,.string ⟨#[]⟩,.bool false,.int .i64 0,.int .i64 0,.int .i64 0,.string ⟨#[]⟩]).cells (6*10)).toList=flatV RecM.cells (List.replicate 6 recZ):=by kernel_rfl
theorem made_recs{n:Nat}(h3:3<=n)(h:n<=6):(madeCells (Value.agg #[.bool false,.int .i64 0,.int .i64 0,.int .i64 0,.string ⟨#[]⟩,.bool false,.int .i64 0,.int .i64 0,.int .i64 0,.string ⟨#[]⟩]).cells (n*10)).toList=flatV RecM.cells (List.replicate n recZ):=by
  match n,h3,h with
  |3,_,_=>exact made_recs3
  |4,_,_=>exact made_recs4
  |5,_,_=>exact made_recs5
  |6,_,_=>exact made_recs6
theorem flatV_rep{α:Type}{f:α->List Value}{n z:Nat}{a:α}(h:(f a).length=z):(flatV f (List.replicate n a)).length=n*z:=by
  simp[flatV,h]
def fenceQ(sn e:Int):AskM:=⟨1,sn,e,0,0,0,0,0,⟨#[]⟩⟩
def onesF(t sn e last:Int)(i:Nat):List OneM:=(List.range i).map fun k:Nat=>⟨(k:Int),last+1+(k:Int),fenceQ sn e,t,t⟩
theorem onesF_len(t sn e last:Int)(i:Nat):(onesF t sn e last i).length=i:=by simp[onesF]
theorem onesF_succ(t sn e last:Int)(i:Nat):onesF t sn e last (i+1)=onesF t sn e last i++[⟨(i:Int),last+1+(i:Int),fenceQ sn e,t,t⟩]:=by simp[onesF,List.range_succ]
def onesA(t:Int):Int->List (Int×AskM)->List OneM
  |_,[]=>[]
  |last,(p,q)::r=>⟨p,last+1,q,t,t⟩::onesA t (last+1) r
theorem onesA_snoc(t:Int):∀(P:List (Int×AskM))(last p:Int)(q:AskM),onesA t last (P++[(p,q)])=onesA t last P++[⟨p,last+(P.length:Int)+1,q,t,t⟩]
  |[],last,p,q=>by simp[onesA]
  |(p',q')::r,last,p,q=>by
    simp only[List.cons_append,onesA,onesA_snoc t r,List.length_cons]
    congr 4
    omega
theorem onesA_len(t:Int):∀(P:List (Int×AskM))(last:Int),(onesA t last P).length=P.length
  |[],_=>rfl
  |(_,_)::r,last=>by simp[onesA,onesA_len t r]
def cmA(c:CM)(t:Int)(P:List (Int×AskM)):CM:=⟨c.frm,c.last+(P.length:Int),onesA t c.last P⟩
theorem cmA_nil(c:CM)(t:Int):{ c with opn:=[] }=cmA c t []:=by simp[cmA,onesA]
theorem cmA_snoc{now:Int}(c:CM)(P:List (Int×AskM))(p:Int)(q:AskM)(h:0<=now∧now<=1099511627776):askC (cmA c now P) now p q=cmA c now (P++[(p,q)]):=by
  rw[cmA,ask_M (within_id h),cmA,onesA_snoc]
  simp only[CM.mk.injEq,List.length_append,List.length_singleton,and_true,true_and]
  omega
theorem onesA_ask{now:Int}(c:CM)(P:List (Int×AskM))(p:Int)(q:AskM)(L:List OneM)(h:0<=now∧now<=1099511627776):(L++onesA now c.last P)++[⟨p,(cmA c now P).last+1,q,within14 now,within14 now⟩]=L++onesA now c.last (P++[(p,q)]):=by
  rw[onesA_snoc,within_id h,List.append_assoc,cmA]
def phaseQ(k sn e:Int):AskM:=⟨k,sn,e,0,0,0,0,0,⟨#[]⟩⟩
def colsP(k N sn e:Int)(R:List Int):List (Int×AskM):=R.map fun c=>((c+sn)%N,phaseQ k sn e)
theorem colsP_take{k N sn e:Int}{R:List Int}{i:Nat}{x:Int}(h:R[i]?=some x):colsP k N sn e (R.take (i+1))=colsP k N sn e (R.take i)++[((x+sn)%N,phaseQ k sn e)]:=by
  rw[List.take_add_one,h]; simp[colsP]
theorem colsP_len(k N sn e:Int)(R:List Int):(colsP k N sn e R).length=R.length:=by simp[colsP]
def lvS(f:Nat->LeaC)(i:Nat)(l:LeaC):Nat->LeaC:=fun j=>if j=i then l else f j
def blS(f:Nat->ByteArray)(i:Nat)(s:ByteArray):Nat->ByteArray:=fun j=>if j=i then s else f j
theorem run_box{P:Program}(w:World)(t:TypeId)(v:Value):∃w',(Instr.box t v).run P w=.ok (.pointer (some ⟨w.heap.size,0,none⟩)) w'∧Blk w' w.heap.size t v.cells.toList∧Kept (fun _=>False) w w'∧w.heap.size<=w'.heap.size:=
  ⟨w.alloc (.cells v.cells t),rfl,by have h:=Blk.new w t v.cells.toList; rwa [Array.toArray_toList]at h,(Kept.refl _ w).alloc _,by simp⟩
def strB(P:Program)(t:TypeId):Bool:=match P.underlying t with|some (.struct _)=>true|_=>false
theorem run_loadS{P:Program}(w:World)(t:TypeId)(g o:Nat)(tt:TypeId)(cs vs:List Value)(ha:strB P t=true)(hs:(P.info? t).map (·.size)=some vs.length)(hB:Blk w g tt cs)(hv:∀j v,vs[j]?=some v->cs[o+j]?=some v) :
    (Instr.loadAt t (.pointer (some ⟨g,o,none⟩))).run P w=.ok (.agg vs.toArray) w:=by
  obtain⟨inf,hi,hz⟩:=Option.map_eq_some_iff.1 hs
  have h1:=run_loadCells_list (P:=P) (w:=w) ⟨g,o,none⟩ vs (fun j v hj=>by
    rw[add_norm]
    exact(hB.cell _).trans (hv j v hj))
  have h2:(isAgg t).run P w=.ok true w:=by
    unfold strB at ha
    split at ha
    · rename_i hu
      simp[isAgg,run_underlying hu]
    · cases ha
  simp[Instr.loadAt,Instr.sureAddr,loadVar,h2,sizeOf,typeInfo,hi,hz,h1]
def onB(P:Program)(t:TypeId):Bool:=match P.underlying t with|some (.struct _)=>false|some (.array _ _)=>false|some _=>true|none=>false
theorem run_load1{P:Program}{w:World}{t:TypeId}{g o:Nat}{v:Value}(ha:onB P t=true)(h:w.cell? ⟨g,o,none⟩=some v):(Instr.loadAt t (.pointer (some ⟨g,o,none⟩))).run P w=.ok v w:=by
  have h2:(isAgg t).run P w=.ok false w:=by
    unfold onB at ha
    split at ha
    · cases ha
    · cases ha
    · rename_i d h1 h2 hu
      simp only[isAgg,Sem.run_bind,run_underlying hu,Result.andThen_ok]
      rfl
    · cases ha
  simp[Instr.loadAt,Instr.sureAddr,loadVar,h2,h]
theorem run_loadSC{P:Program}{w:World}{t:TypeId}{g o:Nat}{vs:List Value}(ha:strB P t=true)(hs:(P.info? t).map (·.size)=some vs.length)(hv:∀j v,vs[j]?=some v->w.cell? ⟨g,o+j,none⟩=some v) :
    (Instr.loadAt t (.pointer (some ⟨g,o,none⟩))).run P w=.ok (.agg vs.toArray) w:=by
  obtain⟨inf,hi,hz⟩:=Option.map_eq_some_iff.1 hs
  have h1:=run_loadCells_list (P:=P) (w:=w) ⟨g,o,none⟩ vs (fun j v hj=>by
    rw[add_norm]
    exact hv j v hj)
  have h2:(isAgg t).run P w=.ok true w:=by
    unfold strB at ha
    split at ha
    · rename_i hu
      simp[isAgg,run_underlying hu]
    · cases ha
  simp[Instr.loadAt,Instr.sureAddr,loadVar,h2,sizeOf,typeInfo,hi,hz,h1]
theorem lvS_self(f:Nat->LeaC)(i:Nat)(l:LeaC):lvS f i l i=l:=by simp[lvS]
end Go.Proofs.YtcmpkkapkdlfhaaGreat
