import Derived.Test.YtcmpkkapkdlfhaaGreatNew11
namespace Go.Proofs.YtcmpkkapkdlfhaaGreat
open Go.RowKit
set_option maxHeartbeats 4000000
set_option maxRecDepth 100000
def zer16:ByteArray:=bytesI (List.replicate 16 0)
def sayZ:SayR:=⟨0,0,0,⟨false,0,0,0,⟨#[]⟩,false,0,0,0,⟨#[]⟩⟩⟩
theorem blk_own2{w:World}{base g:Nat}{e:TypeId}{z:Nat}{cs:List Value}(hb:base<=g)(h:Blk w g e cs)(hl:cs.length=2*z)(_hz:2*z<=100:=by omega):OwnR w base e z (some ⟨g,0,none⟩) 2 2 cs:=
 ownR_of (r:=[]) hb (by rw[List.append_nil]; exact h) (Nat.le_refl _) (by simp only[maxLen]; omega) (by omega) (by rw[List.append_nil]; omega)
def zrec:RecM:=⟨true,0,0,0,zer16,false,0,0,0,⟨#[]⟩⟩
structure KeyN(W:World)(b S kb gI gS:Nat)(A:Option Addr)(cp:Nat):Prop where
 h0:b<=kb
 h1:Blk W kb 119 [.slice A S cp,.slice (some ⟨gI,0,none⟩) 2 2,.slice (some ⟨gS,0,none⟩) 2 2]
 h2:OwnR W b 73 4 A S cp (flatV LeaM.cells (List.replicate S ⟨0,0,0,-1⟩))
 h3:b<=gI
 h4:Blk W gI 3 [i6 0,i6 0]
 h5:b<=gS
 h6:Blk W gS 63 [i6 0,i6 0,i6 0,.bool false,i6 0,i6 0,i6 0,sT ⟨#[]⟩,.bool false,i6 0,i6 0,i6 0,sT ⟨#[]⟩,i6 0,i6 0,i6 0,.bool false,i6 0,i6 0,i6 0,sT ⟨#[]⟩,.bool false,i6 0,i6 0,i6 0,sT ⟨#[]⟩]
theorem KeyN.some_{W:World}{b S kb gI gS:Nat}{A:Option Addr}{cp:Nat}(h:KeyN W b S kb gI gS A cp)(hS:1<=S∧S<=8):∃g,A=some ⟨g,0,none⟩:=by
 obtain⟨g,h1,_⟩:=OwnR.cell (j:=0) (v:=i6 0) h.h2 (by obtain⟨m,rfl⟩:∃m,S=m+1:=⟨S-1,by omega⟩; rfl)
 exact⟨g,h1⟩
theorem byts16z:Byts (List.replicate 16 0):=fun x hx=>by rw[List.eq_of_mem_replicate hx]; decide
theorem tysIn_up{es fs:List TypeId}{w:World}{y:Nat}(h:TysIn es w y)(hs:es.all fs.contains=true):TysIn fs w y:=by
 obtain⟨e,h1,h2⟩:=h
 exact⟨e,by have h3:=List.all_eq_true.1 hs e (by simpa using h1); simpa using h3,h2⟩
theorem own_some{W:World}{b S:Nat}{A:Option Addr}{cp:Nat}(h:OwnR W b 61 10 A S cp (flatV RecM.cells (List.replicate S zrec)))(hS:1<=S∧S<=8):∃g,A=some ⟨g,0,none⟩:=by
 obtain⟨g,h1,_⟩:=OwnR.cell (j:=0) (v:=.bool true) h (by obtain⟨m,rfl⟩:∃m,S=m+1:=⟨S-1,by omega⟩; rfl)
 exact⟨g,h1⟩
def rowV2(S:Nat)(row:Nat->Nat×Nat)(m:Nat):List Value:=[.slice (some ⟨(row m).1,0,none⟩) S (row m).2]
def rowS(row:Nat->Nat×Nat)(n g c:Nat):Nat->Nat×Nat:=fun m=>if m=n then(g,c)else row m
theorem rows_snoc{S n g c:Nat}{row:Nat->Nat×Nat}:flatV (rowV2 S row) (List.range n)++[.slice (some ⟨g,0,none⟩) S c]=flatV (rowV2 S (rowS row n g c)) (List.range (n+1)):=by
 rw[List.range_succ]
 unfold flatV
 rw[List.map_append,List.flatten_append]
 have e1:List.map (rowV2 S row) (List.range n)=List.map (rowV2 S (rowS row n g c)) (List.range n):=by
  apply List.map_congr_left
  intro m hm
  have hm:=List.mem_range.1 hm
  unfold rowV2 rowS
  rw[if_neg (by omega)]
 have e2:[Value.slice (some ⟨g,0,none⟩) S c]=(List.map (rowV2 S (rowS row n g c)) [n]).flatten:=by
  simp[rowV2,rowS]
 rw[e1,e2]
structure NSim(w:World)(S kb gI gS gL cL n:Nat)(row:Nat->Nat×Nat)(b:Nat)(W:World):Prop where
 key:KeyN W w.heap.size S kb gI gS (some ⟨gL,0,none⟩) cL
 rcd:∀m,m<n->OwnR W w.heap.size 61 10 (some ⟨(row m).1,0,none⟩) S (row m).2 (flatV RecM.cells (List.replicate S zrec))
 one:∀m m',m<n->m'<n->(row m).1=(row m').1->m=m'
 low:kb<b∧gI<b∧gS<b∧gL<b∧∀m,m<n->(row m).1<b
theorem NSim.kept{w W W':World}{S kb gI gS gL cL n b:Nat}{row:Nat->Nat×Nat}{T:Nat->Prop}(h:NSim w S kb gI gS gL cL n row b W)(hk:Kept T W W')(hT:∀y,T y->b<=y∨TysIn [23,54,83] W y):NSim w S kb gI gS gL cL n row b W':=by
 obtain⟨l1,l2,l3,l4,l5⟩:=h.low
 have H:∀{g:Nat}{e:TypeId},g<b->TyIn W e g->([23,54,83]:List TypeId).contains e=false->¬T g:=fun hg ht hn hx=>by
  rcases hT _ hx with h1|h1
  ·omega
  ·exact tysIn_not hn ht h1
 refine⟨⟨h.key.h0,h.key.h1.kept hk (H l1 (blk_ty h.key.h1) rfl),h.key.h2.kept hk (fun y hy hx=>?_),h.key.h3,h.key.h4.kept hk (H l2 (blk_ty h.key.h4) rfl),h.key.h5,h.key.h6.kept hk (H l3 (blk_ty h.key.h6) rfl)⟩,fun m hm=>(h.rcd m hm).kept hk (fun y hy hx=>?_),h.one,h.low⟩
 ·have e:=ownS_some y hy
  subst e
  exact H l4 (h.key.h2.ty _ hy) rfl hx
 ·have e:=ownS_some y hy
  subst e
  exact H (l5 m hm) ((h.rcd m hm).ty _ hy) rfl hx
theorem NSim.mono{w W:World}{S kb gI gS gL cL n b b':Nat}{row:Nat->Nat×Nat}(h:NSim w S kb gI gS gL cL n row b W)(hb:b<=b'):NSim w S kb gI gS gL cL n row b' W:=by
 obtain⟨l1,l2,l3,l4,l5⟩:=h.low
 exact{ h with low:=⟨by omega,by omega,by omega,by omega,fun m hm=>by have:=l5 m hm; omega⟩ }
theorem NSim.start{w W:World}{S kb gI gS gL cL:Nat}{row:Nat->Nat×Nat}(h:KeyN W w.heap.size S kb gI gS (some ⟨gL,0,none⟩) cL):NSim w S kb gI gS gL cL 0 row W.heap.size W:=
 ⟨h,fun _ h=>absurd h (Nat.not_lt_zero _),fun _ _ h=>absurd h (Nat.not_lt_zero _),h.h1.lt,h.h4.lt,h.h6.lt,(h.h2.own _ ⟨_,rfl,rfl⟩).2,fun _ h=>absurd h (Nat.not_lt_zero _)⟩
theorem NSim.add{w W:World}{S kb gI gS gL cL n b g c:Nat}{row:Nat->Nat×Nat}(h:NSim w S kb gI gS gL cL n row b W)(hb:w.heap.size<=b)(hg:OwnR W b 61 10 (some ⟨g,0,none⟩) S c (flatV RecM.cells (List.replicate S zrec))):NSim w S kb gI gS gL cL (n+1) (rowS row n g c) W.heap.size W:=by
 have hgo:=hg.own _ ⟨_,rfl,rfl⟩
 obtain⟨l1,l2,l3,l4,l5⟩:=h.low
 have hge:b<=g:=hgo.1
 have hgl:g<W.heap.size:=hgo.2
 refine⟨h.key,fun m hm=>?_,fun m m' hm hm'=>?_,by omega,by omega,by omega,by omega,fun m hm=>?_⟩
 ·unfold rowS
  by_cases e:m=n
  ·simp only[if_pos e]
   exact hg.below hb
  ·simp only[if_neg e]
   exact h.rcd m (by omega)
 ·unfold rowS
  by_cases e:m=n
  ·by_cases e':m'=n
   ·intro _; omega
   ·simp only[if_pos e,if_neg e']
    intro h1
    have:=l5 m' (by omega)
    omega
  ·by_cases e':m'=n
   ·simp only[if_neg e,if_pos e']
    intro h1
    have:=l5 m (by omega)
    omega
   ·simp only[if_neg e,if_neg e']
    exact h.one m m' (by omega) (by omega)
 ·unfold rowS
  by_cases e:m=n
  ·simp only[if_pos e]; omega
  ·simp only[if_neg e]
   have:=l5 m (by omega)
   omega
structure NewS(N S:Nat)(s:SimM):Prop where
 sN:s.N=N
 sS:s.S=S
 recs:s.recs=fun _ _=>zrec
 lea:s.lea=fun _=>⟨0,0,0,-1⟩
 ids:s.ids=[0,0]
 says:s.says=[sayZ,sayZ]
theorem map_const{α:Type}(n:Nat)(x:α):(List.range n).map (fun _=>x)=List.replicate n x:=by simp[List.map_const']
theorem sim_made{w W:World}{N S kb gI gS gL cL sb cp:Nat}{A:Option Addr}{row:Nat->Nat×Nat}(hN:3<=N∧N<=6)(h:NSim w S kb gI gS gL cL N row W.heap.size W)(hO:OwnR W w.heap.size 83 1 A N cp (flatV (rowV2 S row) (List.range N)))(hB:Blk W sb 54 [i6 (N:Int),i6 (S:Int),.slice A N cp,.pointer (some ⟨kb,0,none⟩),.slice none 0 0])(hk:Kept (fun _=>False) w W):∃s_:SimM,(Ending.returned (.pointer (some ⟨sb,0,none⟩)))=.returned (.pointer (some ⟨s_.sb,0,none⟩))∧SimAt W W.heap.size s_∧(NewS N S s_∧SimLo w.heap.size s_)∧Kept (fun _=>False) w W:=by
 obtain⟨g,rfl,_⟩:=OwnR.cell (j:=0) (v:=.slice (some ⟨(row 0).1,0,none⟩) S (row 0).2) hO (by obtain⟨m,rfl⟩:∃m,N=m+1:=⟨N-1,by omega⟩; rw[List.range_succ_eq_map]; rfl)
 obtain⟨l1,l2,l3,l4,l5⟩:=h.low
 have hz:=hk.size
 have z0:∀{e:TypeId}{z n c:Nat}{B:Option Addr}{cs:List Value},OwnR W w.heap.size e z B n c cs->OwnR W 0 e z B n c cs:=fun h=>h.below (Nat.zero_le _)
 refine⟨⟨N,S,sb,kb,g,cp,gL,cL,gI,gS,row,fun _ _=>zrec,fun _=>⟨0,0,0,-1⟩,[0,0],[sayZ,sayZ]⟩,rfl,⟨hB,h.key.h1,z0 hO,fun m hm=>?_,h.one,?_,blk_own2 (Nat.zero_le _) h.key.h4 rfl,blk_own2 (Nat.zero_le _) h.key.h6 rfl,hB.lt,l1,(hO.own _ ⟨_,rfl,rfl⟩).2,l4,l2,l3,l5⟩,⟨⟨rfl,rfl,rfl,rfl,rfl,rfl⟩,(h.key.h2.own _ ⟨_,rfl,rfl⟩).1,h.key.h3,h.key.h5,fun n hn=>((h.rcd n hn).own _ ⟨_,rfl,rfl⟩).1⟩,hk⟩
 ·show OwnR W 0 61 10 (some ⟨(row m).1,0,none⟩) S (row m).2 (flatV RecM.cells ((List.range S).map (fun _=>zrec)))
  rw[map_const]
  exact z0 (h.rcd m hm)
 ·show OwnR W 0 73 4 (some ⟨gL,0,none⟩) S cL (flatV LeaM.cells ((List.range S).map (fun _=>(⟨0,0,0,-1⟩:LeaM))))
  rw[map_const]
  exact z0 h.key.h2
section
variable (N S n kb:Nat)(A:Option Addr)(cp:Nat)(w:World)
def nsm_v1:List Value:=[i6 (N:Int),i6 (S:Int),.slice A n cp,(pt kb 0),.slice none 0 0]
def nsm_v2:List Value:=[i6 (N:Int),i6 (S:Int),.slice none 0 0,.pointer none,.slice none 0 0]
def nsm_v3:List Value:=rp 16 (.int .u8 0)
def nsm_n1:List Nat:=[1,1,1,0,1,0,0,1,0,0,1,0,1,0,0,1,0,0]
def nsm_n2:List Nat:=[1,1,1,0,1,0,0,1,0,0,1,1]
def nsm_n3:List Nat:=[1,1,1,0,1,0,0,1,1]
@[simp] def nsm_b1:List Bk:=[⟨w.heap.size,23,true,[i6 (N:Int),i6 (S:Int)]⟩,⟨w.heap.size+1,54,true,(nsm_v1 N S n kb A cp)⟩]
@[simp] def nsm_b2:List Bk:=[⟨w.heap.size,23,true,[i6 (N:Int),i6 (S:Int)]⟩,⟨w.heap.size+1,54,true,(nsm_v2 N S)⟩]
end
def NsmI(N:Nat)(S:Nat)(kb:Nat)(gL:Nat)(cL:Nat)(gI:Nat)(gS:Nat)(w:World)  (m:Nat) (st:St) (W0:World):Prop:=
 ∃(n:Nat)(A:Option Addr)(cp:Nat)(row:Nat->Nat×Nat)(z:Nat),m+n=N∧n<=N∧NSim w S kb gI gS gL cL n row W0.heap.size W0∧OwnR W0 w.heap.size 83 1 A n cp (flatV (rowV2 S row) (List.range n))∧st=⟨[(1,(pt w.heap.size 0)),(2,.pointer none),(3,(pt (w.heap.size+1) 0)),(4,i6 (n:Int))],(nsm_b1 N S n kb A cp w),[],z⟩
def NsmK(N:Nat)(S:Nat)(n:Nat)(kb:Nat)(gL:Nat)(cL:Nat)(gI:Nat)(gS:Nat)(A:Option Addr)(cp:Nat)(row:Nat->Nat×Nat)(w:World)(W2:World)  (m:Nat) (st:St) (W0:World):Prop:=
 ∃(i:Nat)(B:Option Addr)(cb:Nat)(z:Nat),m+i=S∧i<=S∧W2.heap.size<=W0.heap.size∧NSim w S kb gI gS gL cL n row W2.heap.size W0∧OwnR W0 w.heap.size 83 1 A n cp (flatV (rowV2 S row) (List.range n))∧OwnR W0 W2.heap.size 61 10 B i cb (flatV RecM.cells (List.replicate i zrec))∧st=⟨[(1,(pt w.heap.size 0)),(2,.pointer none),(3,(pt (w.heap.size+1) 0)),(4,i6 (n:Int)),(5,.slice B i cb),(6,i6 (i:Int))],(nsm_b1 N S n kb A cp w),[],z⟩
theorem new_sim(N S:Nat)(hN:3<=N∧N<=6)(hS:1<=S∧S<=8)(w:World) :
  Calls Tryz.prog 9 #[.agg #[i6 (N:Int),i6 (S:Int)]] w (fun e w'=>∃s_:SimM,e=.returned (.pointer (some ⟨s_.sb,0,none⟩))∧SimAt w' w'.heap.size s_∧(NewS N S s_∧SimLo w.heap.size s_)∧Kept (fun _=>False) w w'):=by
 refine cH (S:=(fun _=>False)) (n:=48) Tryz.func9 (MemOk.none w _) ?_
 refine hgE 20 (dz 9 0x101080000002000800) [1,2,3,11,13] [] [(w.heap.size,0,2),(w.heap.size,1,1)] [.ops [1,1,0] [3,4,5,6,7,8,9],.code [1,1,1]] ⟨[(1,(pt w.heap.size 0)),(2,.pointer none),(3,(pt (w.heap.size+1) 0)),(11,(pt (w.heap.size+1) 0)),(13,i6 (S:Int))],(nsm_b2 N S w),[],w.heap.size+2⟩ ?_
 refine holds_callV (w:=w) (S':=(fun _=>False)) (Y:=Nat×Nat×Nat×Option Addr×Nat) (fun yq=>.tuple #[(pt yq.1 0),i6 0]) (fun yq=>(nsm_b2 N S w)) (fun yq W_=>KeyN W_ w.heap.size S yq.1 yq.2.1 yq.2.2.1 yq.2.2.2.1 yq.2.2.2.2) (fun yq=>[(14,.tuple #[(pt yq.1 0),i6 0]),(1,(pt w.heap.size 0)),(2,.pointer none),(3,(pt (w.heap.size+1) 0)),(11,(pt (w.heap.size+1) 0)),(13,i6 (S:Int))]) (show _=some (28,[i6 (S:Int)],some 14,[])by kernel_rfl) tI (fun _=>rfl) (fun wx hm=>?_) (fun yq W1 hX1 hm1=>?_)
 ·refine(keeper_new S hS wx).mono fun e w' hq=>?_
  obtain⟨kb,gI,gS,A,cp,h1,h2,h3,h4,h5,h6⟩:=hq
  have hz:=hm.kept.size
  exact⟨(kb,gI,gS,A,cp),h1,⟨Nat.le_trans hz h2,h3,h4.below hz,Nat.le_trans hz h5.1,h5.2.1,Nat.le_trans hz h5.2.2.1,h5.2.2.2⟩,hm.offA (fun _ h=>h) h6 (fun _ h=>h.elim) (fun b hb h=>h.elim)⟩
 obtain⟨kb,gI,gS,A,cL⟩:=yq
 replace hX1:KeyN W1 w.heap.size S kb gI gS A cL:=hX1
 obtain⟨gL,rfl⟩:=hX1.some_ hS
 replace hm1:MemOk w (fun _=>False) (nsm_b2 N S w) [] W1.heap.size W1:=hm1
 change Holds _ _ _ _ W1 (Turned (nsm_b2 N S w)) _ [.ops [1,1,0] [4,5,6,7,8,9],.code [1,1,1]] ⟨[(14,.tuple #[(pt kb 0),i6 0]),(1,(pt w.heap.size 0)),(2,.pointer none),(3,(pt (w.heap.size+1) 0)),(11,(pt (w.heap.size+1) 0)),(13,i6 (S:Int))],(nsm_b2 N S w),[],W1.heap.size⟩
 refine hgE 16 (dz 7 0x1031800000) [1,2,3,4] [] [(w.heap.size+1,3,1)] [.code [1,1,1,0,1,0],.blk 0,.code [1,1,1,1]] ⟨[(1,(pt w.heap.size 0)),(2,.pointer none),(3,(pt (w.heap.size+1) 0)),(4,i6 0)],[⟨w.heap.size,23,true,[i6 (N:Int),i6 (S:Int)]⟩,⟨w.heap.size+1,54,true,[i6 (N:Int),i6 (S:Int),.slice none 0 0,(pt kb 0),.slice none 0 0]⟩],[],W1.heap.size⟩ ?_
 refine holds_loopW (w:=w) (S':=fun _=>False) (NsmI N S kb gL cL gI gS w) N (by kernel_rfl) (fun W0 hm=>⟨⟨0,none,0,fun _=>(0,0),_,by omega,by omega,((NSim.start hX1).kept hm.kept (fun y hy=>.inr (tysIn_up (turned_tys hm1 y hy) rfl))).mono hm.kept.size,OwnR.nil _ _ _ _,rfl⟩,MemOk.bck hm1 hm⟩) ?_
 rintro m _ W2 ⟨n,A,cp,row,z,hmi,hin,hN2,hO2,rfl⟩ hm2 J hJ
 have hsbl:w.heap.size+1<W2.heap.size:=(hm2.at_ 1 rfl).lt
 have hgl:w.heap.size<W2.heap.size:=(hm2.at_ 0 rfl).lt
 by_cases h1:n<N
 rotate_left
 ·skip
  refine hgS 18 (dz 7 16779264) [2] [dF (((n:Int):Int)<(N:Int))] [(w.heap.size,0,1)] [.code [1,1,1,1,1]] (nsm_b1 N S n kb A cp w) [] W2.heap.size ?_
  refine hrt [] [(pt (w.heap.size+1) 0)] [] ?_
  intro wx hm
  obtain rfl:n=N:=by omega
  exact sim_made hN ((hN2.kept hm.kept (fun y hy=>.inr (tysIn_up (turned_tys hm2 y hy) rfl))).mono hm.kept.size) (hO2.keptT hm.kept (turned_tys hm2) rfl) (hm.at_ 1 rfl) (MemOk.bck hm2 hm).kept
 refine hgE 25 (dz 7 0x1001000800) [1,2,3,4,5,6] [dT (((n:Int):Int)<(N:Int))] [(w.heap.size,0,1)] [.code [1,1,1,0,1,0,0,1,0,0,1,0,1,0],.blk 2,.code nsm_n2,.blk 1,.code nsm_n3,.inv J,.blk 0,.code [1,1,1,1]] ⟨[(1,(pt w.heap.size 0)),(2,.pointer none),(3,(pt (w.heap.size+1) 0)),(4,i6 (n:Int)),(5,.slice none 0 0),(6,i6 0)],(nsm_b1 N S n kb A cp w),[],W2.heap.size⟩ ?_
 refine holds_loopW (w:=w) (S':=fun _=>False) (NsmK N S n kb gL cL gI gS A cp row w W2) S (by kernel_rfl) (fun W0 hm=>⟨⟨0,none,0,_,by omega,by omega,hm.kept.size,hN2.kept hm.kept (fun y hy=>.inr (tysIn_up (turned_tys hm2 y hy) rfl)),hO2.keptT hm.kept (turned_tys hm2) rfl,OwnR.nil _ _ _ _,rfl⟩,MemOk.bck hm2 hm⟩) ?_
 rintro m' _ W3 ⟨i,B,cb,z',hmi2,hin2,h23,hN3,hO3,hP3,rfl⟩ hm3 J2 hJ2
 by_cases h2:i<S
 rotate_left
 ·skip
  refine hgE 21 (dz 12 0x1021800000001010800) [1,2,3,4,37,41,43] [dF (((i:Int):Int)<(S:Int))] [(w.heap.size,1,1),(w.heap.size+1,2,1)] [.ops nsm_n2 [7,8,9,10],.blk 1,.code nsm_n3,.inv J,.blk 0,.code [1,1,1,1]] ⟨[(1,(pt w.heap.size 0)),(2,.pointer none),(3,(pt (w.heap.size+1) 0)),(4,i6 (n:Int)),(37,(pt (w.heap.size+1) 0)),(41,.slice A n cp),(43,.slice (some ⟨W3.heap.size,0,none⟩) 1 1)],[⟨w.heap.size,23,true,[i6 (N:Int),i6 (S:Int)]⟩,⟨w.heap.size+1,54,true,(nsm_v1 N S n kb A cp)⟩,⟨W3.heap.size,83,true,[.slice B i cb]⟩],[],W3.heap.size+1⟩ ?_
  obtain rfl:S=i:=by omega
  obtain⟨gB,rfl⟩:∃g,B=some ⟨g,0,none⟩:=own_some hP3 hS
  have hw2:=hm2.kept.size
  have hw3:=hm3.kept.size
  refine holds_opV (w:=w) (S':=(fun _=>False)) (Y:=Option Addr×Nat) (dst:=(some 44)) (x:=Builtin.append_ #[51,51] 51 #[.slice A n cp,.slice (some ⟨W3.heap.size,0,none⟩) 1 1]) (fun yq=>.slice yq.1 (n+1) yq.2) (nsm_b1 N S n kb A cp w) (fun yq W_=>W2.heap.size<=W_.heap.size∧NSim w S kb gI gS gL cL n row W2.heap.size W_∧OwnR W_ W2.heap.size 61 10 (some ⟨gB,0,none⟩) S cb (flatV RecM.cells (List.replicate S zrec))∧OwnR W_ w.heap.size 83 1 yq.1 (n+1) yq.2 (flatV (rowV2 S (rowS row n gB cb)) (List.range (n+1)))) (fun yq=>[(44,.slice yq.1 (n+1) yq.2),(1,(pt w.heap.size 0)),(2,.pointer none),(3,(pt (w.heap.size+1) 0)),(4,i6 (n:Int)),(37,(pt (w.heap.size+1) 0)),(41,.slice A n cp),(43,.slice (some ⟨W3.heap.size,0,none⟩) 1 1)]) (by kernel_rfl) (by kernel_rfl) (fun _=>rfl) (fun wx hm=>?_) (fun yq W4 hXa hma=>?_)
  ·have hO_:=hO3.keptT hm.kept (turned_tys hm3) rfl
   have hm0:=MemOk.bck hm3 hm
   have hN_:=hN3.kept hm.kept (fun y hy=>.inr (tysIn_up (turned_tys hm3 y hy) rfl))
   have hP_:=hP3.keptT hm.kept (turned_tys hm3) rfl
   obtain⟨A',cp',w',h1,h2,h3,h4⟩:=run_appendR (P:=Tryz.prog) wx w.heap.size 51 51 83 (.slice none 0 0) 1 24 A n cp (flatV (rowV2 S row) (List.range n)) ⟨W3.heap.size,0,none⟩ 1 1 [.slice (some ⟨gB,0,none⟩) S cb] (by kernel_rfl) (by kernel_rfl) (by kernel_rfl) (by decide) hO_ rfl (fun j x hj=>by rw[add_norm,Nat.zero_add]; exact(hm.at_ 2 rfl).at_ hj) (ones_all rfl) (by omega) (by decide) (by have:=hm0.kept.size; have:=hm.kept.size; omega)
   rw[rows_snoc]at h2
   have hT_:=own_tys hO_
   exact⟨(A',cp'),w',h1,⟨Nat.le_trans h23 (Nat.le_trans hm.kept.size h3.size),hN_.kept h3 (fun y hy=>.inr (tysIn_up (hT_ y hy) rfl)),hP_.keptT h3 hT_ rfl,h2⟩,(hm0.sub (bk':=(nsm_b1 N S n kb A cp w)) (by simp)).offA (fun _ h=>h) h3 (fun y hy=>.inr (by have:=(hO_.own y hy).1; have:=hm2.kept.size; omega)) (off_tys (hm0.sub (bk':=(nsm_b1 N S n kb A cp w)) (by simp)) hT_ rfl)⟩
  obtain⟨A2,cp2⟩:=yq
  obtain⟨_,hN4,hP4,hO4⟩:=hXa
  refine holds_go (f:=13) (hs:=[oh0,oh0,(oA 1 2 1),oh0,oh2,oh0]) [1,2,3,4] [true,true] (show _=some (Res.mk [inR .i64 (((n:Int)+1))] (dupR [(w.heap.size+1,2,1)]) [.inv J,.blk 0,.code [1,1,1,1]] ⟨[(1,(pt w.heap.size 0)),(2,.pointer none),(3,(pt (w.heap.size+1) 0)),(4,i6 ((n:Int)+1))],[⟨w.heap.size,23,true,[i6 (N:Int),i6 (S:Int)]⟩,⟨w.heap.size+1,54,true,[i6 (N:Int),i6 (S:Int),.slice A2 (n+1) cp2,(pt kb 0),.slice none 0 0]⟩],[],W4.heap.size⟩)by kernel_rfl) ⟨in64 (by omega),trivial⟩ ?_
  rw[<-cast_succ n]
  intro a_ w9 hf hm
  exact hJ (m-1) _ a_ w9 (by omega) ⟨n+1,A2,cp2,(rowS row n gB cb),_,by omega,by omega,NSim.add (hN4.kept hm.kept (fun y hy=>.inr (tysIn_up (turned_tys hma y hy) rfl))) (by omega) (hP4.keptT hm.kept (turned_tys hma) rfl),hO4.keptT hm.kept (turned_tys hma) rfl,rfl⟩ hf (MemOk.bck hma hm)
 refine hgE 18 (dz 7 0x1001010800) [1,2,3,4,5,6,31,32] [dT (((i:Int):Int)<(S:Int))] [(w.heap.size,1,1)] [.ops nsm_n1 [2,3,4,5,6],.blk 3,.code [1,1,1,0,1,0,0,1,0,0,1,0,1,0,0,1,1],.inv J2,.blk 2,.code nsm_n2,.blk 1,.code nsm_n3,.inv J,.blk 0,.code [1,1,1,1]] ⟨[(1,(pt w.heap.size 0)),(2,.pointer none),(3,(pt (w.heap.size+1) 0)),(4,i6 (n:Int)),(5,.slice B i cb),(6,i6 (i:Int)),(31,.slice B i cb),(32,.slice (some ⟨W3.heap.size,0,none⟩) 16 16)],[⟨w.heap.size,23,true,[i6 (N:Int),i6 (S:Int)]⟩,⟨w.heap.size+1,54,true,(nsm_v1 N S n kb A cp)⟩,⟨W3.heap.size,5,true,(nsm_v3)⟩],[],W3.heap.size+1⟩ ?_
 refine holds_opR (dst:=(some 33)) (x:=convert 34 9 (.slice (some ⟨W3.heap.size,0,none⟩) 16 16)) (sT zer16) (by kernel_rfl) (by kernel_rfl) rfl (fun wx hm=>?_) ?_
 ·exact run_bytesAt (P:=Tryz.prog) wx 34 9 5 _ _ _ _ _ (List.replicate 16 0) [] [] (by kernel_rfl) (by kernel_rfl) (by kernel_rfl) (hm.at_ 2 rfl) rfl rfl byts16z
 refine hgE 5 (dz 2 0) [1,2,3,4,5,6,31,35] [] [] [.ops nsm_n1 [5,6],.blk 3,.code [1,1,1,0,1,0,0,1,0,0,1,0,1,0,0,1,1],.inv J2,.blk 2,.code nsm_n2,.blk 1,.code nsm_n3,.inv J,.blk 0,.code [1,1,1,1]] ⟨[(1,(pt w.heap.size 0)),(2,.pointer none),(3,(pt (w.heap.size+1) 0)),(4,i6 (n:Int)),(5,.slice B i cb),(6,i6 (i:Int)),(31,.slice B i cb),(35,.slice (some ⟨W3.heap.size+1,0,none⟩) 1 1)],[⟨w.heap.size,23,true,[i6 (N:Int),i6 (S:Int)]⟩,⟨w.heap.size+1,54,true,(nsm_v1 N S n kb A cp)⟩,⟨W3.heap.size,5,true,(nsm_v3)⟩,⟨W3.heap.size+1,61,true,[.bool true,i6 0,i6 0,i6 0,sT zer16,.bool false,i6 0,i6 0,i6 0,sT ⟨#[]⟩]⟩],[],W3.heap.size+2⟩ ?_
 have hw2:=hm2.kept.size
 have hw3:=hm3.kept.size
 refine holds_opV (w:=w) (S':=(fun _=>False)) (Y:=Option Addr×Nat) (dst:=(some 36)) (x:=Builtin.append_ #[83,83] 83 #[.slice B i cb,.slice (some ⟨W3.heap.size+1,0,none⟩) 1 1]) (fun yq=>.slice yq.1 (i+1) yq.2) (nsm_b1 N S n kb A cp w) (fun yq W_=>W2.heap.size<=W_.heap.size∧NSim w S kb gI gS gL cL n row W2.heap.size W_∧OwnR W_ w.heap.size 83 1 A n cp (flatV (rowV2 S row) (List.range n))∧OwnR W_ W2.heap.size 61 10 yq.1 (i+1) yq.2 (flatV RecM.cells (List.replicate (i+1) zrec))) (fun yq=>[(36,.slice yq.1 (i+1) yq.2),(1,(pt w.heap.size 0)),(2,.pointer none),(3,(pt (w.heap.size+1) 0)),(4,i6 (n:Int)),(5,.slice B i cb),(6,i6 (i:Int)),(31,.slice B i cb),(35,.slice (some ⟨W3.heap.size+1,0,none⟩) 1 1)]) (by kernel_rfl) (by kernel_rfl) (fun _=>rfl) (fun wx hm=>?_) (fun yq W4 hXa hma=>?_)
 ·have hO_:=hP3.keptT hm.kept (turned_tys hm3) rfl
  have hm0:=MemOk.bck hm3 hm
  have hN_:=hN3.kept hm.kept (fun y hy=>.inr (tysIn_up (turned_tys hm3 y hy) rfl))
  have hR_:=hO3.keptT hm.kept (turned_tys hm3) rfl
  obtain⟨A',cp',w',h1,h2,h3,h4⟩:=run_appendR (P:=Tryz.prog) wx W2.heap.size 83 83 61 (.agg #[.bool false,i6 0,i6 0,i6 0,sT ⟨#[]⟩,.bool false,i6 0,i6 0,i6 0,sT ⟨#[]⟩]) 10 96 B i cb (flatV RecM.cells (List.replicate i zrec)) ⟨W3.heap.size+1,0,none⟩ 1 1 [.bool true,i6 0,i6 0,i6 0,sT zer16,.bool false,i6 0,i6 0,i6 0,sT ⟨#[]⟩] (by kernel_rfl) (by kernel_rfl) (by kernel_rfl) (by decide) hO_ rfl (fun j x hj=>by rw[add_norm,Nat.zero_add]; exact(hm.at_ 3 rfl).at_ hj) (ones_all rfl) (by omega) (by decide) (by have:=hm0.kept.size; have:=hm.kept.size; omega)
  rw[show[.bool true,i6 0,i6 0,i6 0,sT zer16,.bool false,i6 0,i6 0,i6 0,sT ⟨#[]⟩]=RecM.cells zrec from rfl,flatV_snoc,<-List.replicate_succ']at h2
  have hT_:=own_tys hO_
  exact⟨(A',cp'),w',h1,⟨Nat.le_trans h23 (Nat.le_trans hm.kept.size h3.size),hN_.kept h3 (fun y hy=>.inl (hO_.own y hy).1),hR_.keptT h3 hT_ rfl,h2⟩,(hm0.sub (bk':=(nsm_b1 N S n kb A cp w)) (by simp)).offA (fun _ h=>h) h3 (fun y hy=>.inr (by have:=(hO_.own y hy).1; have:=hm2.kept.size; omega)) (off_tys (hm0.sub (bk':=(nsm_b1 N S n kb A cp w)) (by simp)) hT_ rfl)⟩
 obtain⟨A2,cp2⟩:=yq
 obtain⟨h24,hN4,hR4,hP4⟩:=hXa
 refine holds_go (f:=11) (hs:=[oh0,oh0,oh2,oh0]) [1,2,3,4,5,6] [true,true] (show _=some (Res.mk [inR .i64 (((i:Int)+1))] (dupR []) [.inv J2,.blk 2,.code nsm_n2,.blk 1,.code nsm_n3,.inv J,.blk 0,.code [1,1,1,1]] ⟨[(1,(pt w.heap.size 0)),(2,.pointer none),(3,(pt (w.heap.size+1) 0)),(4,i6 (n:Int)),(5,.slice A2 (i+1) cp2),(6,i6 ((i:Int)+1))],(nsm_b1 N S n kb A cp w),[],W4.heap.size⟩)by kernel_rfl) ⟨in64 (by omega),trivial⟩ ?_
 rw[<-cast_succ i]
 intro a_ w9 hf hm
 exact hJ2 (m'-1) _ a_ w9 (by omega) ⟨i+1,A2,cp2,_,by omega,by omega,Nat.le_trans h24 hm.kept.size,hN4.kept hm.kept (fun y hy=>.inr (tysIn_up (turned_tys hma y hy) rfl)),hR4.keptT hm.kept (turned_tys hma) rfl,hP4.keptT hm.kept (turned_tys hma) rfl,rfl⟩ hf (MemOk.bck hma hm)
def snt_v1:List Value:=rp 16 (.int .u8 0)
def snt_v2(Bf:Nat->ByteArray)(F:Int)(d:Int)(q:Int)(n:Nat):List Value:=[.bool true,i6 F,i6 d,i6 q,sT (Bf n),.bool false,i6 0,i6 0,i6 0,sT ⟨#[]⟩]
def NghI(s:SimM)(i:Nat)(Bf:Nat->ByteArray)(w:World)  (m:Nat) (st:St) (W0:World):Prop:=
 ∃(n:Nat)(A:Option Addr)(cp:Nat)(z:Nat),m+n=s.N∧n<=s.N∧OwnR W0 w.heap.size 9 1 A n cp (strsV (((List.range s.N).map Bf).take n))∧st=⟨[(0,(pt s.sb 0)),(1,i6 (i:Int)),(4,.bool false),(5,.slice A n cp),(6,i6 (n:Int))],[⟨s.sb,54,false,s.cells⟩],[],z⟩
theorem nought_any(s:SimM)(b i:Nat)(Bf:Nat->ByteArray)(hN:1<=s.N∧s.N<=6)(hi:i<s.S)(hB:∀n,n<s.N->(Bf n).size=16)(hz:allB ((List.range s.N).map Bf)=zer16)(w:World)(hA:SimAt w b s)(hrec:∀n,n<s.N->∃F d q,s.recs n i=⟨true,F,d,q,Bf n,false,0,0,0,⟨#[]⟩⟩) :
  Calls Tryz.prog 22 #[.pointer (some ⟨s.sb,0,none⟩),i6 (i:Int)] w (fun e w'=>e=.returned (.bool true)∧Kept (fun _=>False) w w'):=by
 refine cH (S:=(fun _=>False)) (n:=54) Tryz.func22 (MemOk.start (bk:=[⟨s.sb,54,false,s.cells⟩]) (wn:=[]) (fun b hb=>by obtain rfl:=List.mem_singleton.1 hb; exact hA.sim) (fun b hb hr=>by obtain rfl:=List.mem_singleton.1 hb; cases hr) (by simp) (by simp)) ?_
 have hgs:=hA.sim.lt
 refine hgE 17 (dz 3 0) [0,1,4,5,6] [] [] [.code [1,1,0,1,0],.blk 0,.code [1,1,1]] ⟨[(0,(pt s.sb 0)),(1,i6 (i:Int)),(4,.bool false),(5,.slice none 0 0),(6,i6 0)],[⟨s.sb,54,false,s.cells⟩],[],w.heap.size⟩ ?_
 refine holds_loopW (w:=w) (S':=fun _=>False) (NghI s i Bf w) s.N (by kernel_rfl) (fun W0 hm=>⟨⟨0,none,0,_,by omega,by omega,OwnR.nil _ _ _ _,rfl⟩,hm⟩) ?_
 rintro m _ W1 ⟨n,A,cp,z,hmi,hin,hO1,rfl⟩ hm1 J hJ
 have hA1:=hA.kept hm1.kept (fun _ h=>h.elim)
 by_cases h1:n<s.N
 rotate_left
 ·skip
  have hnN:n=s.N:=by omega
  rw[List.take_of_length_le (by simp; omega)]at hO1
  obtain⟨gA,rfl,_,hgA,_⟩:=OwnR.cell (j:=0) (v:=sT (Bf 0)) hO1 (by simp[strsV,List.getElem?_range (show 0<s.N by omega)])
  refine hgS 19 (dz 9 0x1000800000) [4,42] [dF (((n:Int):Int)<(s.N:Int))] [(s.sb,0,1)] [.ops [1,1,1,0] [1,2,3,4,5,6],.code [1,1,1,1]] [⟨s.sb,54,false,s.cells⟩] [] W1.heap.size ?_
  refine hcp (.tuple #[sT zer16,i6 0]) 43 [.slice (some ⟨gA,0,none⟩) n cp] (some 43) [] tI rfl (fun wx hm=>by
    have hO_:=hO1.kept hm.kept (fun x _=>(fun⟨b_,hb,hr,_⟩=>by obtain rfl:=List.mem_singleton.1 hb; cases hr))
    have h:=ref1all ((List.range s.N).map Bf) (by simpa using hB) (by simp; omega) gA cp wx (Nat.lt_of_lt_of_le hgA hm.kept.size) (fun j v hj=>by
     obtain⟨g1,e1,_,_,c1⟩:=OwnR.cell hO_ hj
     cases e1
     rw[Nat.zero_add]
     exact c1)
    rw[hz,List.length_map,List.length_range,<-hnN]at h
    exact h) fun z3 hz3=>?_
  replace hz3:W1.heap.size<=z3:=hz3
  refine hgE 16 (dz 10 0x1100000000) [4,48,49,50] [tT,tT] [] [.ops [1,1,1,1,0] [5,6,7,8],.code [1,1,1,1,1]] ⟨[(4,.bool false),(48,.bool true),(49,sT zer16),(50,.slice (some ⟨z3,0,none⟩) 16 16)],[⟨s.sb,54,false,s.cells⟩,⟨z3,5,true,(snt_v1)⟩],[],z3+1⟩ ?_
  refine holds_opRG (dst:=(some 51)) (x:=convert 34 9 (.slice (some ⟨z3,0,none⟩) 16 16)) (ob:=true=true) (sT zer16) (by kernel_rfl) (rfl) (by kernel_rfl) rfl (fun wx hm=>?_) ?_
  ·exact run_bytesAt (P:=Tryz.prog) wx 34 9 5 _ _ _ _ _ (List.replicate 16 0) [] [] (by kernel_rfl) (by kernel_rfl) (by kernel_rfl) (hm.at_ 1 rfl) rfl rfl byts16z
  refine hgS 7 (dz 3 49) [4] [tT,tT] [] [.code [1,1,1,1,1]] [⟨s.sb,54,false,s.cells⟩,⟨z3,5,true,(snt_v1)⟩] [] (z3+1) ?_
  refine hrt [] [.bool (ByteArray.toList zer16==ByteArray.toList zer16)] [] ?_
  intro wx hm
  exact⟨ret_bool (beq_self_eq_true _),(MemOk.bck hm1 hm).kept⟩
 obtain⟨F,d,q,hr⟩:=hrec n h1
 have hri:(s.recL n)[i]?=some ⟨true,F,d,q,Bf n,false,0,0,0,⟨#[]⟩⟩:=by rw[SimM.recL,List.getElem?_map,List.getElem?_range hi]; exact congrArg some hr
 have hrl:=(hA1.rcd n h1).own _ ⟨_,rfl,rfl⟩
 have hol:=hA1.rws.own _ ⟨_,rfl,rfl⟩
 have hs:((List.range s.N).map Bf)[n]?=some (Bf n):=by rw[List.getElem?_map,List.getElem?_range h1]; rfl
 refine holds_wins [⟨s.gO,0+n*1,[.slice (some ⟨(s.row n).1,0,none⟩) s.S ((s.row n).2)]⟩,⟨(s.row n).1,0+i*10,(snt_v2 Bf F d q n)⟩] (fun _ y hy=>?_) ?_
 ·simp only[List.mem_cons,List.not_mem_nil,or_false]at hy
  rcases hy with rfl|rfl
  ·exact⟨(fun⟨b_,hb,hr,_⟩=>by obtain rfl:=List.mem_singleton.1 hb; cases hr),hol.2,own_elem (f:=s.rowV) (fun _=>rfl) hA1.rws (by rw[List.getElem?_range h1])⟩
  ·exact⟨(fun⟨b_,hb,hr,_⟩=>by obtain rfl:=List.mem_singleton.1 hb; cases hr),hrl.2,own_elem rec_len (hA1.rcd n h1) hri⟩
 refine hgE 51 [oh0,oh0,oh0,oh0,oh0,(oA 0 0 1),oh0,oh1,oh0,oh0,oh0,(oA 0 2 1),oh0,oh2,⟨false,0,[⟨true,0,0,1⟩]⟩,oh0,oh2,⟨false,0,[⟨true,1,0,10⟩]⟩,oh0,(oA 1 0 10),oh0,(oA 1 0 1),oh0,oh0,oh0,(oA 1 5 1),⟨false,3,[]⟩,oh0,oh0,oh0,(oA 1 4 1),oh0] [0,1,4,5,6,36,39] [dT (((n:Int):Int)<(s.N:Int)),oE ((0:Int)<=(n:Int)∧(n:Int)<((s.N:Nat):Int)),oE ((0:Int)<=(i:Int)∧(i:Int)<((s.S:Nat):Int)),fF,fF,fF,fF] [(s.sb,0,1),(s.sb,2,1),(s.gO,0+n*1,1),((s.row n).1,0+i*10,10),(W1.heap.size,0,10),(W1.heap.size,0,1),(W1.heap.size,5,1),(W1.heap.size,4,1)] [.ops [1,1,0,1,0,0,1,0,0,1,1] [4,5],.blk 1,.code [1,1,0,1,0,0,1,1],.inv J,.blk 0,.code [1,1,1]] ⟨[(0,(pt s.sb 0)),(1,i6 (i:Int)),(4,.bool false),(5,.slice A n cp),(6,i6 (n:Int)),(36,.slice A n cp),(39,.slice (some ⟨W1.heap.size+1,0,none⟩) 1 1)],[⟨s.sb,54,false,s.cells⟩,⟨W1.heap.size,61,true,(snt_v2 Bf F d q n)⟩,⟨W1.heap.size+1,9,true,[sT (Bf n)]⟩],[⟨s.gO,0+n*1,[.slice (some ⟨(s.row n).1,0,none⟩) s.S ((s.row n).2)]⟩,⟨(s.row n).1,0+i*10,(snt_v2 Bf F d q n)⟩],W1.heap.size+2⟩ ?_
 refine holds_opV (w:=w) (S':=(fun _=>False)) (Y:=Option Addr×Nat) (dst:=(some 40)) (x:=Builtin.append_ #[32,32] 32 #[.slice A n cp,.slice (some ⟨W1.heap.size+1,0,none⟩) 1 1]) (fun yq=>.slice yq.1 (n+1) yq.2) [⟨s.sb,54,false,s.cells⟩] (fun yq W_=>OwnR W_ w.heap.size 9 1 yq.1 (n+1) yq.2 (strsV (((List.range s.N).map Bf).take (n+1)))) (fun yq=>[(40,.slice yq.1 (n+1) yq.2),(0,(pt s.sb 0)),(1,i6 (i:Int)),(4,.bool false),(5,.slice A n cp),(6,i6 (n:Int)),(36,.slice A n cp),(39,.slice (some ⟨W1.heap.size+1,0,none⟩) 1 1)]) (by kernel_rfl) (by kernel_rfl) (fun _=>rfl) (fun wx hm=>?_) (fun yq W3 hXa hma=>?_)
 ·have hm0:=MemOk.bck hm1 hm
  have hO_:OwnR wx w.heap.size 9 1 A n cp (strsV (((List.range s.N).map Bf).take n)):=hO1.kept hm.kept (fun x _=>(fun⟨b_,hb,hr,_⟩=>by obtain rfl:=List.mem_singleton.1 hb; cases hr))
  obtain⟨A',cp',w',h1,h2,h3,h4⟩:=run_appendR (P:=Tryz.prog) wx w.heap.size 32 32 9 (sT ⟨#[]⟩) 1 16 A n cp (strsV (((List.range s.N).map Bf).take n)) ⟨W1.heap.size+1,0,none⟩ 1 1 [sT (Bf n)] (by kernel_rfl) (by kernel_rfl) (by kernel_rfl) (by decide) hO_ rfl (fun j x hj=>by rw[add_norm,Nat.zero_add]; exact(hm.at_ 2 rfl).at_ hj) (ones_all rfl) (by omega) (by decide) hm0.kept.size
  rw[show strsV (((List.range s.N).map Bf).take n)++[sT (Bf n)]=strsV (((List.range s.N).map Bf).take (n+1))by rw[List.take_add_one,hs]; simp[strsV]]at h2
  exact⟨(A',cp'),w',h1,h2,(hm0.sub (bk':=[⟨s.sb,54,false,s.cells⟩]) (by simp)).offA (fun _ h=>h) h3 (fun y hy=>.inr (hO_.own y hy).1) (off_tys (hm0.sub (bk':=[⟨s.sb,54,false,s.cells⟩]) (by simp)) (own_tys hO_) rfl)⟩
 obtain⟨A2,cp2⟩:=yq
 refine hgE 11 (dz 4 512) [0,1,4,5,6] [n64 (((n:Int)+1))] [] [.inv J,.blk 0,.code [1,1,1]] ⟨[(0,(pt s.sb 0)),(1,i6 (i:Int)),(4,.bool false),(5,.slice A2 (n+1) cp2),(6,i6 ((n:Int)+1))],[⟨s.sb,54,false,s.cells⟩],[],W3.heap.size⟩ ?_
 rw[<-cast_succ n]
 intro a_ w9 hf hm
 exact hJ (m-1) _ a_ w9 (by omega) ⟨n+1,A2,cp2,_,by omega,by omega,hXa.kept hm.kept (fun x _=>(fun⟨b_,hb,hr,_⟩=>by obtain rfl:=List.mem_singleton.1 hb; cases hr)),rfl⟩ hf (MemOk.bck hma hm)
end Go.Proofs.YtcmpkkapkdlfhaaGreat
