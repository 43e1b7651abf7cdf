import Derived.Test.YtpilmccjjbgmiaaPlat
namespace Go.Proofs.Ytpilmccjjbgmiaa
open Go.RowKit
@[simp] def pwo_b1 (n:Nat) (a:Int) (c:Int) (lb:Nat) (mb:Nat) (pb:Nat):List Bk:=[⟨pb,90,false,[.slice (some ⟨lb,0,none⟩) n n,.map (some mb),.bool true,i6 a,i6 c]⟩]
set_option maxRecDepth 100000 in
set_option maxHeartbeats 4000000 in
theorem write_off (n lb mb pb:Nat) (a c:Int) (k:Int) (s:ByteArray) (w:World) (hp:Blk w pb 90 [.slice (some ⟨lb,0,none⟩) n n,.map (some mb),.bool true,.int .i64 a,.int .i64 c]) :
  Calls Try.prog 22 #[.pointer (some ⟨pb,0,none⟩),.int .i64 k,.string s] w (RetK (.int .i64 70) w):=by
 refine calls_of_holds (S:=(fun _=>False)) (l:=[(pt pb 0),.int .i64 k,.string s]) (n:=28) Try.func22 (body_of (by kernel_rfl)) rfl (by simp) (MemOk.start (bk:=(pwo_b1 n a c lb mb pb)) (wn:=[]) (by simpa using hp) (by simp) (by simp) (by simp)) ?_
 refine hgE 11 [oh0,oh0] [0,1,2,6,7] [] [] [.ops [1,0,0] [1,2],.code [1,0,1],.code [1,1]] ⟨[(0,(pt pb 0)),(1,i6 k),(2,sT s),(6,i6 0),(7,(pt pb 0))],(pwo_b1 n a c lb mb pb),[],w.heap.size⟩ ?_
 refine hcp (.bool false) 56 [(pt pb 0)] (some 8) [] tI rfl (fun wx hm=>act_off n lb mb pb a c wx (hm.at_ 0 rfl)) fun z2 hz2=>?_
 replace hz2:w.heap.size ≤ z2:=hz2
 refine hgE 10 [oh0,oh1,oh0] [0,1,2,6] [tT] [] [.code [1,0,1,0,1],.code [1,1]] ⟨[(0,(pt pb 0)),(1,i6 k),(2,sT s),(6,i6 70)],(pwo_b1 n a c lb mb pb),[],z2⟩ ?_
 refine hrt [] [i6 70] [] ?_
 intro wx hm
 exact ⟨rfl,hm.kept⟩
def pwc_v1 (n:Nat) (a:Int) (c:Int) (lb:Nat) (mb:Nat):List Value:=[.slice (some ⟨lb,0,none⟩) n n,.map (some mb),.bool (decide (c = 1)),i6 (a + 1),i6 (dn c)]
@[simp] def pwc_b1 (n:Nat) (a:Int) (c:Int) (lb:Nat) (mb:Nat) (pb:Nat):List Bk:=[⟨pb,90,true,[.slice (some ⟨lb,0,none⟩) n n,.map (some mb),.bool false,i6 a,i6 c]⟩]
set_option maxRecDepth 100000 in
set_option maxHeartbeats 4000000 in
theorem write_cut (n lb mb pb:Nat) (a c:Int) (ha:0 ≤ a ∧ a < 4611686018427387904) (hc:0 ≤ c ∧ c < 4611686018427387904) (hc1:decide (c = 1) = true) (k:Int) (s:ByteArray) (w:World) (hp:Blk w pb 90 [.slice (some ⟨lb,0,none⟩) n n,.map (some mb),.bool false,.int .i64 a,.int .i64 c]) :
  Calls Try.prog 22 #[.pointer (some ⟨pb,0,none⟩),.int .i64 k,.string s] w (fun e w'=>e = .returned (.int .i64 70) ∧ Blk w' pb 90 [.slice (some ⟨lb,0,none⟩) n n,.map (some mb),.bool (decide (c = 1)),.int .i64 (a + 1),.int .i64 (dn c)] ∧ Kept (fun x=>x = pb) w w'):=by
 refine calls_of_holds (S:=(fun x=>x = pb)) (l:=[(pt pb 0),.int .i64 k,.string s]) (n:=28) Try.func22 (body_of (by kernel_rfl)) rfl (by simp) (MemOk.start (bk:=(pwc_b1 n a c lb mb pb)) (wn:=[]) (by simpa using hp) (by simp) (by simp) (by simp)) ?_
 refine hgE 11 [oh0,oh0] [0,1,2,6,7] [] [] [.ops [1,0,0] [1,2],.code [1,0,1],.code [1,1]] ⟨[(0,(pt pb 0)),(1,i6 k),(2,sT s),(6,i6 0),(7,(pt pb 0))],(pwc_b1 n a c lb mb pb),[],w.heap.size⟩ ?_
 refine holds_callM (.bool (!decide (c = 1))) [⟨pb,90,true,(pwc_v1 n a c lb mb)⟩] (show _ = some (56,[(pt pb 0)],some 8,[]) by kernel_rfl) tI rfl (fun wx hm=>?_) fun z2 hz2=>?_
 ·refine (act_live n lb mb pb a c ha hc wx (hm.at_ 0 rfl)).mono fun e w' he=>?_
  obtain ⟨h7,h8,h9⟩:=he
  exact ⟨h7,hm.set1 0 rfl rfl h9 h8⟩
 replace hz2:w.heap.size ≤ z2:=hz2
 refine hgE 10 [oh0,oh1,oh0] [0,1,2,6] [oE ((!(!decide (c = 1))) = true) (by rw [show (!decide (c = 1)) = false from (by rw [hc1]; rfl)]; rfl)] [] [.code [1,0,1,0,1],.code [1,1]] ⟨[(0,(pt pb 0)),(1,i6 k),(2,sT s),(6,i6 70)],[⟨pb,90,true,(pwc_v1 n a c lb mb)⟩],[],z2⟩ ?_
 refine hrt [] [i6 70] [] ?_
 intro wx hm
 exact ⟨rfl,hm.at_ 0 rfl,hm.kept⟩
def WrX (mb:Nat) (cs:List CE) (ck:Nat) (k:Int) (s:ByteArray) (j:Nat) (w:World):Prop:=if j = 0 then MapAt w mb cs ck else MapAt w mb (putC cs ck k (intsOf s)).1 (putC cs ck k (intsOf s)).2
def pwr_v1 (n:Nat) (a:Int) (c:Int) (lb:Nat) (mb:Nat):List Value:=(pwc_v1 n a c lb mb)
def pwr_Q (n:Nat) (k:Int) (a:Int) (c:Int) (lb:Nat) (mb:Nat) (pb:Nat) (s:ByteArray) (cs:List CE) (ck:Nat) (w:World):Exit → Act → World → Prop:=bodyPost Try.prog Try.f22 (fun e w'=>e = .returned (i6 0) ∧ Blk w' pb 90 [.slice (some ⟨lb,0,none⟩) n n,.map (some mb),.bool (decide (c = 1)),i6 (a + 1),i6 (dn c)] ∧ MapAt w' mb (putC cs ck k (intsOf s)).1 (putC cs ck k (intsOf s)).2 ∧ Kept (fun x=>x = pb ∨ x = mb) w w')
@[simp] def pwr_b1 (n:Nat) (a:Int) (c:Int) (lb:Nat) (mb:Nat) (pb:Nat):List Bk:=[⟨pb,90,true,[.slice (some ⟨lb,0,none⟩) n n,.map (some mb),.bool false,i6 a,i6 c]⟩]
def pwr_g6s (k:Int) (pb:Nat) (s:ByteArray):List (Nat × Value):=[(0,(pt pb 0)),(1,i6 k),(2,sT s),(6,i6 0)]
def pwr_g6v (k:Int) (mb:Nat) (pb:Nat) (s:ByteArray):List (Option Value):=[some ((pt pb 0)),some ((pt pb 0)),some ((pt pb 1)),some (.map (some mb)),some (i6 k),some (sT s),none,none,some (secV (intsOf s)),some (.tuple #[])]
def pwr_g6m (n:Nat) (a:Int) (c:Int) (lb:Nat) (mb:Nat) (pb:Nat):List (List Bk):=[[⟨pb,90,true,(pwr_v1 n a c lb mb)⟩],[⟨pb,90,true,(pwr_v1 n a c lb mb)⟩]]
def pwr_g6t:List (Option Nat):=[none,none,none,none,none,none,none,none,none,some 0]
def pwr_g6E (n:Nat) (k:Int) (a:Int) (c:Int) (lb:Nat) (mb:Nat) (pb:Nat) (s:ByteArray) (i_:Nat) (h_:OH) (o_:List Prop) (r_:List (Nat × Nat × Nat)):Prop:=∀ sz,(List.range (1 + 1)).map (regEnt Try.prog (opsOf (getCode (bodyOf Try.f22) [1,1,1,0])) (slI (opsOf (getCode (bodyOf Try.f22) [1,1,1,0])) (pwr_g6s k pb s) i_) (pwr_g6v k mb pb s) (pwr_g6m n a c lb mb pb) [] sz i_ h_) = (List.range (1 + 1)).map (regExp (pwr_g6v k mb pb s) (pwr_g6m n a c lb mb pb) sz i_ o_ r_)
theorem pwr_g6_0 (n:Nat) (k:Int) (a:Int) (c:Int) (lb:Nat) (mb:Nat) (pb:Nat) (s:ByteArray):pwr_g6E n k a c lb mb pb s 0 oh0 [] []:=fun sz=>by kernel_rfl
theorem pwr_g6_1 (n:Nat) (k:Int) (a:Int) (c:Int) (lb:Nat) (mb:Nat) (pb:Nat) (s:ByteArray):pwr_g6E n k a c lb mb pb s 1 oh0 [] []:=fun sz=>by kernel_rfl
theorem pwr_g6_2 (n:Nat) (k:Int) (a:Int) (c:Int) (lb:Nat) (mb:Nat) (pb:Nat) (s:ByteArray):pwr_g6E n k a c lb mb pb s 2 oh0 [] []:=fun sz=>by kernel_rfl
theorem pwr_g6_3 (n:Nat) (k:Int) (a:Int) (c:Int) (lb:Nat) (mb:Nat) (pb:Nat) (s:ByteArray):pwr_g6E n k a c lb mb pb s 3 (oA 0 1 1) [] [(pb,1,1)]:=fun sz=>by kernel_rfl
theorem pwr_g6_4 (n:Nat) (k:Int) (a:Int) (c:Int) (lb:Nat) (mb:Nat) (pb:Nat) (s:ByteArray):pwr_g6E n k a c lb mb pb s 4 oh0 [] []:=fun sz=>by kernel_rfl
theorem pwr_g6_5 (n:Nat) (k:Int) (a:Int) (c:Int) (lb:Nat) (mb:Nat) (pb:Nat) (s:ByteArray):pwr_g6E n k a c lb mb pb s 5 oh0 [] []:=fun sz=>by kernel_rfl
set_option maxRecDepth 100000 in
set_option maxHeartbeats 4000000 in
theorem write_live (n lb mb pb:Nat) (a c:Int) (ha:0 ≤ a ∧ a < 4611686018427387904) (hc:0 ≤ c ∧ c < 4611686018427387904) (hc1:decide (c = 1) = false) (k:Int) (s:ByteArray) (cs:List CE) (ck:Nat) (hk:0 ≤ k ∧ k < (n:Int)) (hs:s.size = 64) (hne:pb ≠ mb) (w:World) (hp:Blk w pb 90 [.slice (some ⟨lb,0,none⟩) n n,.map (some mb),.bool false,.int .i64 a,.int .i64 c]) (hmp:MapAt w mb cs ck) :
  Calls Try.prog 22 #[.pointer (some ⟨pb,0,none⟩),.int .i64 k,.string s] w (fun e w'=>e = .returned (.int .i64 0) ∧ Blk w' pb 90 [.slice (some ⟨lb,0,none⟩) n n,.map (some mb),.bool (decide (c = 1)),.int .i64 (a + 1),.int .i64 (dn c)] ∧ MapAt w' mb (putC cs ck k (intsOf s)).1 (putC cs ck k (intsOf s)).2 ∧ Kept (fun x=>x = pb ∨ x = mb) w w'):=by
 have hpl:=hp.lt
 have hml:=hmp.lt
 refine calls_of_holds (S:=(fun x=>x = pb)) (l:=[(pt pb 0),.int .i64 k,.string s]) (n:=28) Try.func22 (body_of (by kernel_rfl)) rfl (by simp) (MemOk.start (bk:=(pwr_b1 n a c lb mb pb)) (wn:=[]) (by simpa using hp) (by simp) (by simp) (by simp)) ?_
 refine hgE 11 [oh0,oh0] [0,1,2,6,7] [] [] [.ops [1,0,0] [1,2],.code [1,0,1],.code [1,1]] ⟨[(0,(pt pb 0)),(1,i6 k),(2,sT s),(6,i6 0),(7,(pt pb 0))],(pwr_b1 n a c lb mb pb),[],w.heap.size⟩ ?_
 refine holds_callM (.bool (!decide (c = 1))) [⟨pb,90,true,(pwr_v1 n a c lb mb)⟩] (show _ = some (56,[(pt pb 0)],some 8,[]) by kernel_rfl) tI rfl (fun wx hm=>?_) fun z2 hz2=>?_
 ·refine (act_live n lb mb pb a c ha hc wx (hm.at_ 0 rfl)).mono fun e w' he=>?_
  obtain ⟨h7,h8,h9⟩:=he
  exact ⟨h7,hm.set1 0 rfl rfl h9 h8⟩
 replace hz2:w.heap.size ≤ z2:=hz2
 refine hgE 12 [oh0,oh0,oh0,oh0] [0,1,2,6,10,11] [oE ((!(!decide (c = 1))) = false) (by rw [show (!decide (c = 1)) = true from (by rw [hc1]; rfl)]; rfl)] [] [.ops [1,1,0,0] [2,3,4,5,6,7,8],.code [1,1,0,1],.code [1,1,1]] ⟨[(0,(pt pb 0)),(1,i6 k),(2,sT s),(6,i6 0),(10,(pt pb 0)),(11,i6 k)],[⟨pb,90,true,(pwr_v1 n a c lb mb)⟩],[],z2⟩ ?_
 refine hcp (.bool true) 57 [(pt pb 0),i6 k] (some 12) [] tI rfl (fun wx hm=>has_true n lb mb pb (decide (c = 1)) (a + 1) (dn c) k hk wx (hm.at_ 0 rfl)) fun z4 hz4=>?_
 replace hz4:z2 ≤ z4:=hz4
 refine hgE 13 [oh0,oh0,oh0,oh0,oh0,⟨false,3,[]⟩,oh0] [0,1,2,6] [fF,fF,fF,fF,oE (((s.size:Int) != 64) = false) (by rw [hs]; rfl)] [] [.code [1,1,1,0],.code [1,1,1,1]] ⟨[(0,(pt pb 0)),(1,i6 k),(2,sT s),(6,i6 0)],[⟨pb,90,true,(pwr_v1 n a c lb mb)⟩],[],z4⟩ ?_
 have pwr_g6_d0:CertG (wpOp Try.prog (opsOf (getCode (bodyOf Try.f22) [1,1,1,0])) (sem Try.prog (bodyOf Try.f22) (pwr_Q n k a c lb mb pb s cs ck w) [.code [1,1,1,1]])) [] 28 (opsOf (getCode (bodyOf Try.f22) [1,1,1,0])) (slI (opsOf (getCode (bodyOf Try.f22) [1,1,1,0])) (pwr_g6s k pb s) 0) (pwr_g6t) 1 (MG w (fun x=>x = pb ∨ x = mb) (pwr_g6m n a c lb mb pb) [] z4) (Turned [⟨pb,90,true,(pwr_v1 n a c lb mb)⟩]) (PvG (pwr_g6v k mb pb s) (fun k_ v_ w_=>(k_ = 6 ∧ ∃ g c,z4 ≤ g ∧ v_ = .slice (some ⟨g,0,none⟩) 64 c ∧ FB w_ g 5 (intsOf s)) ∨ (k_ = 7 ∧ ∃ g,z4 ≤ g ∧ v_ = (pt g 0) ∧ FB w_ g 5 (intsOf s)))) 0:=cert_reg (v:=(pt pb 0)) (by kernel_rfl) (by kernel_rfl) (by kernel_rfl) (pwr_g6_0 n k a c lb mb pb s) trivial
 have pwr_g6_c0:CertG (wpOp Try.prog (opsOf (getCode (bodyOf Try.f22) [1,1,1,0])) (sem Try.prog (bodyOf Try.f22) (pwr_Q n k a c lb mb pb s cs ck w) [.code [1,1,1,1]])) [] 28 (opsOf (getCode (bodyOf Try.f22) [1,1,1,0])) (slI (opsOf (getCode (bodyOf Try.f22) [1,1,1,0])) (pwr_g6s k pb s) 0) (pwr_g6t) 1 (fun j_ wy_=>MG w (fun x=>x = pb ∨ x = mb) (pwr_g6m n a c lb mb pb) [] z4 j_ wy_ ∧ (WrX mb cs ck k s) j_ wy_) (fun x=>x = pb ∨ x = mb) (PvG (pwr_g6v k mb pb s) (fun k_ v_ w_=>(k_ = 6 ∧ ∃ g c,z4 ≤ g ∧ v_ = .slice (some ⟨g,0,none⟩) 64 c ∧ FB w_ g 5 (intsOf s)) ∨ (k_ = 7 ∧ ∃ g,z4 ≤ g ∧ v_ = (pt g 0) ∧ FB w_ g 5 (intsOf s)))) 0:=cert_frame pwr_g6_d0 (by kernel_rfl) (fun x ⟨b,hb,hr,he⟩=>.inl (by simp at hb; subst hb; exact he.symm)) (fun j_ wa wb h hk'=>by
   unfold WrX at h ⊢
   have hnT:¬ Turned [⟨pb,90,true,(pwr_v1 n a c lb mb)⟩] mb:=by
    rintro ⟨b,hb,hr,he⟩
    simp at hb
    subst hb
    simp at he
    omega
   by_cases h0:j_ = 0
   ·rw [if_pos h0] at h ⊢
    exact h.kept hk' hnT
   ·rw [if_neg h0] at h ⊢
    exact h.kept hk' hnT)
 have pwr_g6_d1:CertG (wpOp Try.prog (opsOf (getCode (bodyOf Try.f22) [1,1,1,0])) (sem Try.prog (bodyOf Try.f22) (pwr_Q n k a c lb mb pb s cs ck w) [.code [1,1,1,1]])) [] 28 (opsOf (getCode (bodyOf Try.f22) [1,1,1,0])) (slI (opsOf (getCode (bodyOf Try.f22) [1,1,1,0])) (pwr_g6s k pb s) 1) (pwr_g6t) 1 (MG w (fun x=>x = pb ∨ x = mb) (pwr_g6m n a c lb mb pb) [] z4) (Turned [⟨pb,90,true,(pwr_v1 n a c lb mb)⟩]) (PvG (pwr_g6v k mb pb s) (fun k_ v_ w_=>(k_ = 6 ∧ ∃ g c,z4 ≤ g ∧ v_ = .slice (some ⟨g,0,none⟩) 64 c ∧ FB w_ g 5 (intsOf s)) ∨ (k_ = 7 ∧ ∃ g,z4 ≤ g ∧ v_ = (pt g 0) ∧ FB w_ g 5 (intsOf s)))) 1:=cert_reg (v:=(pt pb 0)) (by kernel_rfl) (by kernel_rfl) (by kernel_rfl) (pwr_g6_1 n k a c lb mb pb s) trivial
 have pwr_g6_c1:CertG (wpOp Try.prog (opsOf (getCode (bodyOf Try.f22) [1,1,1,0])) (sem Try.prog (bodyOf Try.f22) (pwr_Q n k a c lb mb pb s cs ck w) [.code [1,1,1,1]])) [] 28 (opsOf (getCode (bodyOf Try.f22) [1,1,1,0])) (slI (opsOf (getCode (bodyOf Try.f22) [1,1,1,0])) (pwr_g6s k pb s) 1) (pwr_g6t) 1 (fun j_ wy_=>MG w (fun x=>x = pb ∨ x = mb) (pwr_g6m n a c lb mb pb) [] z4 j_ wy_ ∧ (WrX mb cs ck k s) j_ wy_) (fun x=>x = pb ∨ x = mb) (PvG (pwr_g6v k mb pb s) (fun k_ v_ w_=>(k_ = 6 ∧ ∃ g c,z4 ≤ g ∧ v_ = .slice (some ⟨g,0,none⟩) 64 c ∧ FB w_ g 5 (intsOf s)) ∨ (k_ = 7 ∧ ∃ g,z4 ≤ g ∧ v_ = (pt g 0) ∧ FB w_ g 5 (intsOf s)))) 1:=cert_frame pwr_g6_d1 (by kernel_rfl) (fun x ⟨b,hb,hr,he⟩=>.inl (by simp at hb; subst hb; exact he.symm)) (fun j_ wa wb h hk'=>by
   unfold WrX at h ⊢
   have hnT:¬ Turned [⟨pb,90,true,(pwr_v1 n a c lb mb)⟩] mb:=by
    rintro ⟨b,hb,hr,he⟩
    simp at hb
    subst hb
    simp at he
    omega
   by_cases h0:j_ = 0
   ·rw [if_pos h0] at h ⊢
    exact h.kept hk' hnT
   ·rw [if_neg h0] at h ⊢
    exact h.kept hk' hnT)
 have pwr_g6_d2:CertG (wpOp Try.prog (opsOf (getCode (bodyOf Try.f22) [1,1,1,0])) (sem Try.prog (bodyOf Try.f22) (pwr_Q n k a c lb mb pb s cs ck w) [.code [1,1,1,1]])) [] 28 (opsOf (getCode (bodyOf Try.f22) [1,1,1,0])) (slI (opsOf (getCode (bodyOf Try.f22) [1,1,1,0])) (pwr_g6s k pb s) 2) (pwr_g6t) 1 (MG w (fun x=>x = pb ∨ x = mb) (pwr_g6m n a c lb mb pb) [] z4) (Turned [⟨pb,90,true,(pwr_v1 n a c lb mb)⟩]) (PvG (pwr_g6v k mb pb s) (fun k_ v_ w_=>(k_ = 6 ∧ ∃ g c,z4 ≤ g ∧ v_ = .slice (some ⟨g,0,none⟩) 64 c ∧ FB w_ g 5 (intsOf s)) ∨ (k_ = 7 ∧ ∃ g,z4 ≤ g ∧ v_ = (pt g 0) ∧ FB w_ g 5 (intsOf s)))) 2:=cert_reg (v:=(pt pb 1)) (by kernel_rfl) (by kernel_rfl) (by kernel_rfl) (pwr_g6_2 n k a c lb mb pb s) trivial
 have pwr_g6_c2:CertG (wpOp Try.prog (opsOf (getCode (bodyOf Try.f22) [1,1,1,0])) (sem Try.prog (bodyOf Try.f22) (pwr_Q n k a c lb mb pb s cs ck w) [.code [1,1,1,1]])) [] 28 (opsOf (getCode (bodyOf Try.f22) [1,1,1,0])) (slI (opsOf (getCode (bodyOf Try.f22) [1,1,1,0])) (pwr_g6s k pb s) 2) (pwr_g6t) 1 (fun j_ wy_=>MG w (fun x=>x = pb ∨ x = mb) (pwr_g6m n a c lb mb pb) [] z4 j_ wy_ ∧ (WrX mb cs ck k s) j_ wy_) (fun x=>x = pb ∨ x = mb) (PvG (pwr_g6v k mb pb s) (fun k_ v_ w_=>(k_ = 6 ∧ ∃ g c,z4 ≤ g ∧ v_ = .slice (some ⟨g,0,none⟩) 64 c ∧ FB w_ g 5 (intsOf s)) ∨ (k_ = 7 ∧ ∃ g,z4 ≤ g ∧ v_ = (pt g 0) ∧ FB w_ g 5 (intsOf s)))) 2:=cert_frame pwr_g6_d2 (by kernel_rfl) (fun x ⟨b,hb,hr,he⟩=>.inl (by simp at hb; subst hb; exact he.symm)) (fun j_ wa wb h hk'=>by
   unfold WrX at h ⊢
   have hnT:¬ Turned [⟨pb,90,true,(pwr_v1 n a c lb mb)⟩] mb:=by
    rintro ⟨b,hb,hr,he⟩
    simp at hb
    subst hb
    simp at he
    omega
   by_cases h0:j_ = 0
   ·rw [if_pos h0] at h ⊢
    exact h.kept hk' hnT
   ·rw [if_neg h0] at h ⊢
    exact h.kept hk' hnT)
 have pwr_g6_d3:CertG (wpOp Try.prog (opsOf (getCode (bodyOf Try.f22) [1,1,1,0])) (sem Try.prog (bodyOf Try.f22) (pwr_Q n k a c lb mb pb s cs ck w) [.code [1,1,1,1]])) [] 28 (opsOf (getCode (bodyOf Try.f22) [1,1,1,0])) (slI (opsOf (getCode (bodyOf Try.f22) [1,1,1,0])) (pwr_g6s k pb s) 3) (pwr_g6t) 1 (MG w (fun x=>x = pb ∨ x = mb) (pwr_g6m n a c lb mb pb) [] z4) (Turned [⟨pb,90,true,(pwr_v1 n a c lb mb)⟩]) (PvG (pwr_g6v k mb pb s) (fun k_ v_ w_=>(k_ = 6 ∧ ∃ g c,z4 ≤ g ∧ v_ = .slice (some ⟨g,0,none⟩) 64 c ∧ FB w_ g 5 (intsOf s)) ∨ (k_ = 7 ∧ ∃ g,z4 ≤ g ∧ v_ = (pt g 0) ∧ FB w_ g 5 (intsOf s)))) 3:=cert_reg (v:=.map (some mb)) (by kernel_rfl) (by kernel_rfl) (by kernel_rfl) (pwr_g6_3 n k a c lb mb pb s) trivial
 have pwr_g6_c3:CertG (wpOp Try.prog (opsOf (getCode (bodyOf Try.f22) [1,1,1,0])) (sem Try.prog (bodyOf Try.f22) (pwr_Q n k a c lb mb pb s cs ck w) [.code [1,1,1,1]])) [] 28 (opsOf (getCode (bodyOf Try.f22) [1,1,1,0])) (slI (opsOf (getCode (bodyOf Try.f22) [1,1,1,0])) (pwr_g6s k pb s) 3) (pwr_g6t) 1 (fun j_ wy_=>MG w (fun x=>x = pb ∨ x = mb) (pwr_g6m n a c lb mb pb) [] z4 j_ wy_ ∧ (WrX mb cs ck k s) j_ wy_) (fun x=>x = pb ∨ x = mb) (PvG (pwr_g6v k mb pb s) (fun k_ v_ w_=>(k_ = 6 ∧ ∃ g c,z4 ≤ g ∧ v_ = .slice (some ⟨g,0,none⟩) 64 c ∧ FB w_ g 5 (intsOf s)) ∨ (k_ = 7 ∧ ∃ g,z4 ≤ g ∧ v_ = (pt g 0) ∧ FB w_ g 5 (intsOf s)))) 3:=cert_frame pwr_g6_d3 (by kernel_rfl) (fun x ⟨b,hb,hr,he⟩=>.inl (by simp at hb; subst hb; exact he.symm)) (fun j_ wa wb h hk'=>by
   unfold WrX at h ⊢
   have hnT:¬ Turned [⟨pb,90,true,(pwr_v1 n a c lb mb)⟩] mb:=by
    rintro ⟨b,hb,hr,he⟩
    simp at hb
    subst hb
    simp at he
    omega
   by_cases h0:j_ = 0
   ·rw [if_pos h0] at h ⊢
    exact h.kept hk' hnT
   ·rw [if_neg h0] at h ⊢
    exact h.kept hk' hnT)
 have pwr_g6_d4:CertG (wpOp Try.prog (opsOf (getCode (bodyOf Try.f22) [1,1,1,0])) (sem Try.prog (bodyOf Try.f22) (pwr_Q n k a c lb mb pb s cs ck w) [.code [1,1,1,1]])) [] 28 (opsOf (getCode (bodyOf Try.f22) [1,1,1,0])) (slI (opsOf (getCode (bodyOf Try.f22) [1,1,1,0])) (pwr_g6s k pb s) 4) (pwr_g6t) 1 (MG w (fun x=>x = pb ∨ x = mb) (pwr_g6m n a c lb mb pb) [] z4) (Turned [⟨pb,90,true,(pwr_v1 n a c lb mb)⟩]) (PvG (pwr_g6v k mb pb s) (fun k_ v_ w_=>(k_ = 6 ∧ ∃ g c,z4 ≤ g ∧ v_ = .slice (some ⟨g,0,none⟩) 64 c ∧ FB w_ g 5 (intsOf s)) ∨ (k_ = 7 ∧ ∃ g,z4 ≤ g ∧ v_ = (pt g 0) ∧ FB w_ g 5 (intsOf s)))) 4:=cert_reg (v:=.int .i64 k) (by kernel_rfl) (by kernel_rfl) (by kernel_rfl) (pwr_g6_4 n k a c lb mb pb s) trivial
 have pwr_g6_c4:CertG (wpOp Try.prog (opsOf (getCode (bodyOf Try.f22) [1,1,1,0])) (sem Try.prog (bodyOf Try.f22) (pwr_Q n k a c lb mb pb s cs ck w) [.code [1,1,1,1]])) [] 28 (opsOf (getCode (bodyOf Try.f22) [1,1,1,0])) (slI (opsOf (getCode (bodyOf Try.f22) [1,1,1,0])) (pwr_g6s k pb s) 4) (pwr_g6t) 1 (fun j_ wy_=>MG w (fun x=>x = pb ∨ x = mb) (pwr_g6m n a c lb mb pb) [] z4 j_ wy_ ∧ (WrX mb cs ck k s) j_ wy_) (fun x=>x = pb ∨ x = mb) (PvG (pwr_g6v k mb pb s) (fun k_ v_ w_=>(k_ = 6 ∧ ∃ g c,z4 ≤ g ∧ v_ = .slice (some ⟨g,0,none⟩) 64 c ∧ FB w_ g 5 (intsOf s)) ∨ (k_ = 7 ∧ ∃ g,z4 ≤ g ∧ v_ = (pt g 0) ∧ FB w_ g 5 (intsOf s)))) 4:=cert_frame pwr_g6_d4 (by kernel_rfl) (fun x ⟨b,hb,hr,he⟩=>.inl (by simp at hb; subst hb; exact he.symm)) (fun j_ wa wb h hk'=>by
   unfold WrX at h ⊢
   have hnT:¬ Turned [⟨pb,90,true,(pwr_v1 n a c lb mb)⟩] mb:=by
    rintro ⟨b,hb,hr,he⟩
    simp at hb
    subst hb
    simp at he
    omega
   by_cases h0:j_ = 0
   ·rw [if_pos h0] at h ⊢
    exact h.kept hk' hnT
   ·rw [if_neg h0] at h ⊢
    exact h.kept hk' hnT)
 have pwr_g6_d5:CertG (wpOp Try.prog (opsOf (getCode (bodyOf Try.f22) [1,1,1,0])) (sem Try.prog (bodyOf Try.f22) (pwr_Q n k a c lb mb pb s cs ck w) [.code [1,1,1,1]])) [] 28 (opsOf (getCode (bodyOf Try.f22) [1,1,1,0])) (slI (opsOf (getCode (bodyOf Try.f22) [1,1,1,0])) (pwr_g6s k pb s) 5) (pwr_g6t) 1 (MG w (fun x=>x = pb ∨ x = mb) (pwr_g6m n a c lb mb pb) [] z4) (Turned [⟨pb,90,true,(pwr_v1 n a c lb mb)⟩]) (PvG (pwr_g6v k mb pb s) (fun k_ v_ w_=>(k_ = 6 ∧ ∃ g c,z4 ≤ g ∧ v_ = .slice (some ⟨g,0,none⟩) 64 c ∧ FB w_ g 5 (intsOf s)) ∨ (k_ = 7 ∧ ∃ g,z4 ≤ g ∧ v_ = (pt g 0) ∧ FB w_ g 5 (intsOf s)))) 5:=cert_reg (v:=.string s) (by kernel_rfl) (by kernel_rfl) (by kernel_rfl) (pwr_g6_5 n k a c lb mb pb s) trivial
 have pwr_g6_c5:CertG (wpOp Try.prog (opsOf (getCode (bodyOf Try.f22) [1,1,1,0])) (sem Try.prog (bodyOf Try.f22) (pwr_Q n k a c lb mb pb s cs ck w) [.code [1,1,1,1]])) [] 28 (opsOf (getCode (bodyOf Try.f22) [1,1,1,0])) (slI (opsOf (getCode (bodyOf Try.f22) [1,1,1,0])) (pwr_g6s k pb s) 5) (pwr_g6t) 1 (fun j_ wy_=>MG w (fun x=>x = pb ∨ x = mb) (pwr_g6m n a c lb mb pb) [] z4 j_ wy_ ∧ (WrX mb cs ck k s) j_ wy_) (fun x=>x = pb ∨ x = mb) (PvG (pwr_g6v k mb pb s) (fun k_ v_ w_=>(k_ = 6 ∧ ∃ g c,z4 ≤ g ∧ v_ = .slice (some ⟨g,0,none⟩) 64 c ∧ FB w_ g 5 (intsOf s)) ∨ (k_ = 7 ∧ ∃ g,z4 ≤ g ∧ v_ = (pt g 0) ∧ FB w_ g 5 (intsOf s)))) 5:=cert_frame pwr_g6_d5 (by kernel_rfl) (fun x ⟨b,hb,hr,he⟩=>.inl (by simp at hb; subst hb; exact he.symm)) (fun j_ wa wb h hk'=>by
   unfold WrX at h ⊢
   have hnT:¬ Turned [⟨pb,90,true,(pwr_v1 n a c lb mb)⟩] mb:=by
    rintro ⟨b,hb,hr,he⟩
    simp at hb
    subst hb
    simp at he
    omega
   by_cases h0:j_ = 0
   ·rw [if_pos h0] at h ⊢
    exact h.kept hk' hnT
   ·rw [if_neg h0] at h ⊢
    exact h.kept hk' hnT)
 have pwr_g6_d6:CertG (wpOp Try.prog (opsOf (getCode (bodyOf Try.f22) [1,1,1,0])) (sem Try.prog (bodyOf Try.f22) (pwr_Q n k a c lb mb pb s cs ck w) [.code [1,1,1,1]])) [] 28 (opsOf (getCode (bodyOf Try.f22) [1,1,1,0])) (slI (opsOf (getCode (bodyOf Try.f22) [1,1,1,0])) (pwr_g6s k pb s) 6) (pwr_g6t) 1 (MG w (fun x=>x = pb ∨ x = mb) (pwr_g6m n a c lb mb pb) [] z4) (Turned [⟨pb,90,true,(pwr_v1 n a c lb mb)⟩]) (PvG (pwr_g6v k mb pb s) (fun k_ v_ w_=>(k_ = 6 ∧ ∃ g c,z4 ≤ g ∧ v_ = .slice (some ⟨g,0,none⟩) 64 c ∧ FB w_ g 5 (intsOf s)) ∨ (k_ = 7 ∧ ∃ g,z4 ≤ g ∧ v_ = (pt g 0) ∧ FB w_ g 5 (intsOf s)))) 6:=cert_op (bk0:=[⟨pb,90,true,(pwr_v1 n a c lb mb)⟩]) (by
   intro j a_ wx hj hjs _ hf hk_ hm
   obtain ⟨bk,hb,hz,hM⟩:=hm
   obtain ⟨c,w',h1,h2,h3⟩:=run_newBytes (P:=Try.prog) wx 9 40 5 s (by kernel_rfl) (by kernel_rfl) (by kernel_rfl)
   rw [hs] at h1
   exact ⟨_,_,_,w',hf,by kernel_rfl,by kernel_rfl,h1,.inl ⟨rfl,_,c,hz,rfl,h2⟩,h3.mono (fun _ _ h=>h.elim),bk,hb,Nat.le_trans hz h3.size,(hM.same h3).2⟩)
 have pwr_g6_c6:CertG (wpOp Try.prog (opsOf (getCode (bodyOf Try.f22) [1,1,1,0])) (sem Try.prog (bodyOf Try.f22) (pwr_Q n k a c lb mb pb s cs ck w) [.code [1,1,1,1]])) [] 28 (opsOf (getCode (bodyOf Try.f22) [1,1,1,0])) (slI (opsOf (getCode (bodyOf Try.f22) [1,1,1,0])) (pwr_g6s k pb s) 6) (pwr_g6t) 1 (fun j_ wy_=>MG w (fun x=>x = pb ∨ x = mb) (pwr_g6m n a c lb mb pb) [] z4 j_ wy_ ∧ (WrX mb cs ck k s) j_ wy_) (fun x=>x = pb ∨ x = mb) (PvG (pwr_g6v k mb pb s) (fun k_ v_ w_=>(k_ = 6 ∧ ∃ g c,z4 ≤ g ∧ v_ = .slice (some ⟨g,0,none⟩) 64 c ∧ FB w_ g 5 (intsOf s)) ∨ (k_ = 7 ∧ ∃ g,z4 ≤ g ∧ v_ = (pt g 0) ∧ FB w_ g 5 (intsOf s)))) 6:=cert_frame pwr_g6_d6 (by kernel_rfl) (fun x ⟨b,hb,hr,he⟩=>.inl (by simp at hb; subst hb; exact he.symm)) (fun j_ wa wb h hk'=>by
   unfold WrX at h ⊢
   have hnT:¬ Turned [⟨pb,90,true,(pwr_v1 n a c lb mb)⟩] mb:=by
    rintro ⟨b,hb,hr,he⟩
    simp at hb
    subst hb
    simp at he
    omega
   by_cases h0:j_ = 0
   ·rw [if_pos h0] at h ⊢
    exact h.kept hk' hnT
   ·rw [if_neg h0] at h ⊢
    exact h.kept hk' hnT)
 have pwr_g6_d7:CertG (wpOp Try.prog (opsOf (getCode (bodyOf Try.f22) [1,1,1,0])) (sem Try.prog (bodyOf Try.f22) (pwr_Q n k a c lb mb pb s cs ck w) [.code [1,1,1,1]])) [] 28 (opsOf (getCode (bodyOf Try.f22) [1,1,1,0])) (slI (opsOf (getCode (bodyOf Try.f22) [1,1,1,0])) (pwr_g6s k pb s) 7) (pwr_g6t) 1 (MG w (fun x=>x = pb ∨ x = mb) (pwr_g6m n a c lb mb pb) [] z4) (Turned [⟨pb,90,true,(pwr_v1 n a c lb mb)⟩]) (PvG (pwr_g6v k mb pb s) (fun k_ v_ w_=>(k_ = 6 ∧ ∃ g c,z4 ≤ g ∧ v_ = .slice (some ⟨g,0,none⟩) 64 c ∧ FB w_ g 5 (intsOf s)) ∨ (k_ = 7 ∧ ∃ g,z4 ≤ g ∧ v_ = (pt g 0) ∧ FB w_ g 5 (intsOf s)))) 7:=cert_op (bk0:=[⟨pb,90,true,(pwr_v1 n a c lb mb)⟩]) (by
   intro j a_ wx hj hjs _ hf hk_ hm
   obtain ⟨v,hv1,hv2⟩:=hk_ 6 (List.mem_of_getElem? (i:=0) (by kernel_rfl)) 25 (by kernel_rfl)
   obtain ⟨_,g,c,hg,rfl,hB⟩ | ⟨h0,_⟩:=hv2
   ·exact ⟨[(25,.slice (some ⟨g,0,none⟩) 64 c)],Instr.arrayAt 94 (.slice (some ⟨g,0,none⟩) 64 c),_,wx,⟨hf.size,hf.df,fun q u hq=>by
     simp only [getS] at hq
     split at hq
     ·rename_i he
      have he':25 = q:=Nat.eq_of_beq_eq_true he
      subst he'
      simp only [Option.some.injEq] at hq
      subst hq
      exact hv1
     ·cases hq⟩,by kernel_rfl,by kernel_rfl,run_arrayAt wx _ 5 64 _ 64 c (by kernel_rfl) (Nat.le_refl _),.inr ⟨rfl,g,hg,rfl,hB⟩,Kept.refl _ _,hm⟩
   ·cases h0)
 have pwr_g6_c7:CertG (wpOp Try.prog (opsOf (getCode (bodyOf Try.f22) [1,1,1,0])) (sem Try.prog (bodyOf Try.f22) (pwr_Q n k a c lb mb pb s cs ck w) [.code [1,1,1,1]])) [] 28 (opsOf (getCode (bodyOf Try.f22) [1,1,1,0])) (slI (opsOf (getCode (bodyOf Try.f22) [1,1,1,0])) (pwr_g6s k pb s) 7) (pwr_g6t) 1 (fun j_ wy_=>MG w (fun x=>x = pb ∨ x = mb) (pwr_g6m n a c lb mb pb) [] z4 j_ wy_ ∧ (WrX mb cs ck k s) j_ wy_) (fun x=>x = pb ∨ x = mb) (PvG (pwr_g6v k mb pb s) (fun k_ v_ w_=>(k_ = 6 ∧ ∃ g c,z4 ≤ g ∧ v_ = .slice (some ⟨g,0,none⟩) 64 c ∧ FB w_ g 5 (intsOf s)) ∨ (k_ = 7 ∧ ∃ g,z4 ≤ g ∧ v_ = (pt g 0) ∧ FB w_ g 5 (intsOf s)))) 7:=cert_frame pwr_g6_d7 (by kernel_rfl) (fun x ⟨b,hb,hr,he⟩=>.inl (by simp at hb; subst hb; exact he.symm)) (fun j_ wa wb h hk'=>by
   unfold WrX at h ⊢
   have hnT:¬ Turned [⟨pb,90,true,(pwr_v1 n a c lb mb)⟩] mb:=by
    rintro ⟨b,hb,hr,he⟩
    simp at hb
    subst hb
    simp at he
    omega
   by_cases h0:j_ = 0
   ·rw [if_pos h0] at h ⊢
    exact h.kept hk' hnT
   ·rw [if_neg h0] at h ⊢
    exact h.kept hk' hnT)
 have pwr_g6_d8:CertG (wpOp Try.prog (opsOf (getCode (bodyOf Try.f22) [1,1,1,0])) (sem Try.prog (bodyOf Try.f22) (pwr_Q n k a c lb mb pb s cs ck w) [.code [1,1,1,1]])) [] 28 (opsOf (getCode (bodyOf Try.f22) [1,1,1,0])) (slI (opsOf (getCode (bodyOf Try.f22) [1,1,1,0])) (pwr_g6s k pb s) 8) (pwr_g6t) 1 (MG w (fun x=>x = pb ∨ x = mb) (pwr_g6m n a c lb mb pb) [] z4) (Turned [⟨pb,90,true,(pwr_v1 n a c lb mb)⟩]) (PvG (pwr_g6v k mb pb s) (fun k_ v_ w_=>(k_ = 6 ∧ ∃ g c,z4 ≤ g ∧ v_ = .slice (some ⟨g,0,none⟩) 64 c ∧ FB w_ g 5 (intsOf s)) ∨ (k_ = 7 ∧ ∃ g,z4 ≤ g ∧ v_ = (pt g 0) ∧ FB w_ g 5 (intsOf s)))) 8:=cert_op (bk0:=[⟨pb,90,true,(pwr_v1 n a c lb mb)⟩]) (by
   intro j a_ wx hj hjs _ hf hk_ hm
   obtain ⟨v,hv1,hv2⟩:=hk_ 7 (List.mem_of_getElem? (i:=0) (by kernel_rfl)) 26 (by kernel_rfl)
   obtain ⟨h0,_⟩ | ⟨_,g,hg,rfl,hB⟩:=hv2
   ·cases h0
   ·exact ⟨[(26,(pt g 0))],Instr.loadAt 94 ((pt g 0)),_,wx,⟨hf.size,hf.df,fun q u hq=>by
     simp only [getS] at hq
     split at hq
     ·rename_i he
      have he':26 = q:=Nat.eq_of_beq_eq_true he
      subst he'
      simp only [Option.some.injEq] at hq
      subst hq
      exact hv1
     ·cases hq⟩,by kernel_rfl,by kernel_rfl,run_loadFB wx 94 5 64 g 5 (intsOf s) (by kernel_rfl) (by rw [length_intsOf,hs]; kernel_rfl) hB,(rfl:secV (intsOf s) = _),Kept.refl _ _,hm⟩)
 have pwr_g6_c8:CertG (wpOp Try.prog (opsOf (getCode (bodyOf Try.f22) [1,1,1,0])) (sem Try.prog (bodyOf Try.f22) (pwr_Q n k a c lb mb pb s cs ck w) [.code [1,1,1,1]])) [] 28 (opsOf (getCode (bodyOf Try.f22) [1,1,1,0])) (slI (opsOf (getCode (bodyOf Try.f22) [1,1,1,0])) (pwr_g6s k pb s) 8) (pwr_g6t) 1 (fun j_ wy_=>MG w (fun x=>x = pb ∨ x = mb) (pwr_g6m n a c lb mb pb) [] z4 j_ wy_ ∧ (WrX mb cs ck k s) j_ wy_) (fun x=>x = pb ∨ x = mb) (PvG (pwr_g6v k mb pb s) (fun k_ v_ w_=>(k_ = 6 ∧ ∃ g c,z4 ≤ g ∧ v_ = .slice (some ⟨g,0,none⟩) 64 c ∧ FB w_ g 5 (intsOf s)) ∨ (k_ = 7 ∧ ∃ g,z4 ≤ g ∧ v_ = (pt g 0) ∧ FB w_ g 5 (intsOf s)))) 8:=cert_frame pwr_g6_d8 (by kernel_rfl) (fun x ⟨b,hb,hr,he⟩=>.inl (by simp at hb; subst hb; exact he.symm)) (fun j_ wa wb h hk'=>by
   unfold WrX at h ⊢
   have hnT:¬ Turned [⟨pb,90,true,(pwr_v1 n a c lb mb)⟩] mb:=by
    rintro ⟨b,hb,hr,he⟩
    simp at hb
    subst hb
    simp at he
    omega
   by_cases h0:j_ = 0
   ·rw [if_pos h0] at h ⊢
    exact h.kept hk' hnT
   ·rw [if_neg h0] at h ⊢
    exact h.kept hk' hnT)
 have pwr_g6_c9:CertG (wpOp Try.prog (opsOf (getCode (bodyOf Try.f22) [1,1,1,0])) (sem Try.prog (bodyOf Try.f22) (pwr_Q n k a c lb mb pb s cs ck w) [.code [1,1,1,1]])) [] 28 (opsOf (getCode (bodyOf Try.f22) [1,1,1,0])) (slI (opsOf (getCode (bodyOf Try.f22) [1,1,1,0])) (pwr_g6s k pb s) 9) (pwr_g6t) 1 (fun j_ wy_=>MG w (fun x=>x = pb ∨ x = mb) (pwr_g6m n a c lb mb pb) [] z4 j_ wy_ ∧ (WrX mb cs ck k s) j_ wy_) (fun x=>x = pb ∨ x = mb) (PvG (pwr_g6v k mb pb s) (fun k_ v_ w_=>(k_ = 6 ∧ ∃ g c,z4 ≤ g ∧ v_ = .slice (some ⟨g,0,none⟩) 64 c ∧ FB w_ g 5 (intsOf s)) ∨ (k_ = 7 ∧ ∃ g,z4 ≤ g ∧ v_ = (pt g 0) ∧ FB w_ g 5 (intsOf s)))) 9:=cert_opU (by
   intro j a_ wx hj hjs hf hk_ hm
   obtain ⟨rfl,_⟩:=hjs 0 (by kernel_rfl)
   obtain ⟨⟨bk,hb,hz,hM⟩,hX⟩:=hm
   have hb':some [⟨pb,90,true,(pwr_v1 n a c lb mb)⟩] = some bk:=hb
   cases hb'
   obtain ⟨w',h1,h2,h3,h4⟩:=run_put (P:=Try.prog) wx 88 3 94 .i64 mb cs ck k (intsOf s) (by kernel_rfl) (by kernel_rfl) hX
   refine ⟨_,_,w',hf,by kernel_rfl,by kernel_rfl,h1,(rfl:undef = _),h3.mono (fun _ _ h=>.inr h),⟨[⟨pb,90,true,(pwr_v1 n a c lb mb)⟩],by kernel_rfl,by omega,?_⟩,h2⟩
   have h5:MemOk w (fun x=>x = pb ∨ x = mb) [⟨pb,90,true,(pwr_v1 n a c lb mb)⟩] [] wx.heap.size w':=⟨h4,fun b hb=>(hM.blk b hb).kept h3 (fun e=>by simp at hb; subst hb; simp at e; omega),hM.own,hM.nd,hM.kept.trans h3 (fun _ _ e=>.inr e),fun _ h=>by cases h⟩
   rw [h4]
   exact h5)
 refine holds_mixX (vs:=(pwr_g6v k mb pb s)) (ms:=(pwr_g6m n a c lb mb pb)) (stg:=(pwr_g6t)) (J:=1) (sl':=[(6,i6 0)]) (bk':=[⟨pb,90,true,(pwr_v1 n a c lb mb)⟩]) (fun k_ v_ w_=>(k_ = 6 ∧ ∃ g c,z4 ≤ g ∧ v_ = .slice (some ⟨g,0,none⟩) 64 c ∧ FB w_ g 5 (intsOf s)) ∨ (k_ = 7 ∧ ∃ g,z4 ≤ g ∧ v_ = (pt g 0) ∧ FB w_ g 5 (intsOf s))) (WrX mb cs ck k s) (fun x=>x = pb ∨ x = mb) (fun x=>x = pb ∨ x = mb) [6] (fun _ h=>.inl h) (by kernel_rfl) (by kernel_rfl) (by kernel_rfl) (fun k_ v_ wa wb h hk'=>by
   rcases h with ⟨h0,g,c,hg,hv,hB⟩ | ⟨h0,g,hg,hv,hB⟩
   ·exact .inl ⟨h0,g,c,hg,hv,hB.kept hk' (by rintro (e | e) <;> omega)⟩
   ·exact .inr ⟨h0,g,hg,hv,hB.kept hk' (by rintro (e | e) <;> omega)⟩) (fun wx hm=>(hmp.kept hm.kept (fun e=>hne e.symm):MapAt wx mb cs ck)) (certs_of [0,1,2,3,4,5,6,7,8,9] (by kernel_rfl) ⟨pwr_g6_c0,pwr_g6_c1,pwr_g6_c2,pwr_g6_c3,pwr_g6_c4,pwr_g6_c5,pwr_g6_c6,pwr_g6_c7,pwr_g6_c8,pwr_g6_c9,trivial⟩) (by kernel_rfl) (by kernel_rfl) (by kernel_rfl) (fun W hX hzW hmW=>?_)
 refine hgE 7 [oh0] [6] [] [] [.code [1,1,1,1,1]] ⟨[(6,i6 0)],[⟨pb,90,true,(pwr_v1 n a c lb mb)⟩],[],W.heap.size⟩ ?_
 refine hrt [] [i6 0] [] ?_
 intro wx hm
 refine ⟨rfl,hm.at_ 0 rfl,MapAt.kept (hX:MapAt W mb (putC cs ck k (intsOf s)).1 (putC cs ck k (intsOf s)).2) hm.kept (by rintro ⟨b,hb,hr,he⟩; simp at hb; subst hb; simp at he; omega),hmW.kept.trans hm.kept (fun k_ _ ⟨b,hb,hr,he⟩=>.inl (by simp at hb; subst hb; exact he.symm))⟩
theorem write_pl (M:Pl) (pb:Nat) (k:Int) (s:ByteArray) (ha:M.acts < 4611686018427387904) (hk:0 ≤ k ∧ k < (M.n:Int)) (hs:s.size = 64) (w:World) (hP:PlatAt 90 94 w pb M) :
  Calls Try.prog 22 #[.pointer (some ⟨pb,0,none⟩),.int .i64 k,.string s] w (fun e w'=>e = .returned (.int .i64 (goesE M)) ∧ PlatAt 90 94 w' pb (writePl M k (intsOf s)) ∧ Kept (minePl pb M) w w'):=by
 have hok:=hP.ok.write (k:=k) (L:=intsOf s) hk (secOk_of hs)
 have ha2:=hP.ok.a0
 have hc2:=hP.ok.c0
 obtain ⟨h1,h2,h3,h4⟩:=hP
 obtain ⟨lb,mb,n,last,cs,ck,off,a,c⟩:=M
 cases off with
 | true=>exact (write_off n lb mb pb a c k s w h1).mono fun e w' ⟨he,hk⟩=>⟨he,⟨h1.kept hk id,h2.kept hk id,h3.kept hk id,h4⟩,hk.mono (fun _ _ h=>h.elim)⟩
 | false=>
  cases hc1:decide (c = 1) with
  | true=>
   have e1:goesE ⟨lb,mb,n,last,cs,ck,false,a,c⟩ = 70:=by simp [goesE,Pl.goes,hc1]
   have e2:writePl ⟨lb,mb,n,last,cs,ck,false,a,c⟩ k (intsOf s) = ⟨lb,mb,n,last,cs,ck,decide (c = 1),a + 1,dn c⟩:=by simp [writePl,actPl,Pl.goes,hc1]
   rw [e1,e2]
   rw [e2] at hok
   refine (write_cut n lb mb pb a c ⟨ha2,ha⟩ hc2 hc1 k s w h1).mono fun e w' ⟨he,hB,hk⟩=>⟨he,⟨hB,h2.kept hk (fun e=>h4.ne2 e.symm),h3.kept hk (fun e=>h4.ne1 e.symm),hok⟩,hk.mono (fun _ _ h=>.inl h)⟩
  | false=>
   have e1:goesE ⟨lb,mb,n,last,cs,ck,false,a,c⟩ = 0:=by simp [goesE,Pl.goes,hc1]
   have e2:writePl ⟨lb,mb,n,last,cs,ck,false,a,c⟩ k (intsOf s) = ⟨lb,mb,n,last,(putC cs ck k (intsOf s)).1,(putC cs ck k (intsOf s)).2,decide (c = 1),a + 1,dn c⟩:=by simp [writePl,actPl,Pl.goes,hc1]
   rw [e1,e2]
   rw [e2] at hok
   refine (write_live n lb mb pb a c ⟨ha2,ha⟩ hc2 hc1 k s cs ck hk hs h4.ne1 w h1 h3).mono fun e w' ⟨he,hB,hmw,hk⟩=>⟨he,⟨hB,h2.kept hk (fun e=>e.elim (fun e=>h4.ne2 e.symm) h4.ne3),hmw,hok⟩,hk.mono (fun _ _ h=>h.imp_right .inr)⟩
@[simp] def prh_b1 (n:Nat) (a:Int) (c:Int) (lb:Nat) (mb:Nat) (pb:Nat) (last:List (List Int)):List Bk:=[⟨pb,90,false,[.slice (some ⟨lb,0,none⟩) n n,.map (some mb),.bool false,i6 a,i6 c]⟩,⟨lb,94,false,(secsV last)⟩]
@[simp] def prh_b2 (n:Nat) (a:Int) (c:Int) (lb:Nat) (mb:Nat) (pb:Nat) (L:List Int) (last:List (List Int)) (z2:Nat):List Bk:=[⟨pb,90,false,[.slice (some ⟨lb,0,none⟩) n n,.map (some mb),.bool false,i6 a,i6 c]⟩,⟨lb,94,false,(secsV last)⟩,⟨z2,94,true,(intsV L)⟩]
set_option maxRecDepth 100000 in
set_option maxHeartbeats 4000000 in
theorem read_hit (n lb mb pb:Nat) (a c k:Int) (hk:0 ≤ k ∧ k < (n:Int)) (cs:List CE) (ck:Nat) (last:List (List Int)) (L:List Int) (hL:SecOk L) (hne:¬pb = lb) (hv:valC cs k = some L) (w:World) (hp:Blk w pb 90 [.slice (some ⟨lb,0,none⟩) n n,.map (some mb),.bool false,.int .i64 a,.int .i64 c]) (hl:Blk w lb 94 (secsV last)) (hmp:MapAt w mb cs ck) :
  Calls Try.prog 59 #[.pointer (some ⟨pb,0,none⟩),.int .i64 k] w (RetK (.tuple #[.string (bytesI L),.int .i64 0]) w):=by
 refine calls_of_holds (S:=(fun _=>False)) (l:=[(pt pb 0),.int .i64 k]) (n:=36) Try.func59 (body_of (by kernel_rfl)) rfl (by simp) (MemOk.start (bk:=(prh_b1 n a c lb mb pb last)) (wn:=[]) (by simpa using ⟨hp,hl⟩) (by simp) (by simp; exact hne) (by simp)) ?_
 refine hgE 23 [oh0,oh0,oh0,oh0,oh0,(oA 0 2 1),oh0,oh0,oh0] [0,1,4,5,12,13] [fF] [(pb,2,1)] [.ops [1,1,0,0] [2,3],.code [1,1,0,1],.code [1,1,1]] ⟨[(0,(pt pb 0)),(1,i6 k),(4,sT ⟨#[]⟩),(5,i6 0),(12,(pt pb 0)),(13,i6 k)],(prh_b1 n a c lb mb pb last),[],w.heap.size⟩ ?_
 refine hcp (.bool true) 57 [(pt pb 0),i6 k] (some 14) [] tI rfl (fun wx hm=>has_true n lb mb pb false a c k hk wx (hm.at_ 0 rfl)) fun z2 hz2=>?_
 replace hz2:w.heap.size ≤ z2:=hz2
 refine hgE 14 [oh0,oh0,oh0,oh0,oh0,(oA 0 1 1),oh0] [0,1,4,5,20,21] [fF] [(pb,1,1)] [.ops [1,1,1,0] [5,6,7,8,9,10,11],.code [1,1,1,1]] ⟨[(0,(pt pb 0)),(1,i6 k),(4,sT ⟨#[]⟩),(5,i6 0),(20,.map (some mb)),(21,i6 k)],(prh_b1 n a c lb mb pb last),[],z2⟩ ?_
 refine holds_opR (dst:=(some 22)) (x:=Instr.lookup 88 (.map (some mb)) (.int .i64 k) true) (.tuple #[secV L,.bool true]) (by kernel_rfl) (by kernel_rfl) rfl (fun wx hm=>?_) ?_
 ·have h:=run_look (P:=Try.prog) wx 88 3 94 .i64 mb cs ck k (by kernel_rfl) (by kernel_rfl) (by kernel_rfl) (hmp.kept hm.kept id)
  rw [lookC_val,hv] at h
  exact h
 refine hgE 7 [oh0,oh0,oh0,oh0] [0,1,4,5,6,23,24] [] [] [.ops [1,1,1,0] [10,11],.code [1,1,1,1]] ⟨[(0,(pt pb 0)),(1,i6 k),(4,sT ⟨#[]⟩),(5,i6 0),(6,(pt z2 0)),(23,secV L),(24,.bool true)],[⟨pb,90,false,[.slice (some ⟨lb,0,none⟩) n n,.map (some mb),.bool false,i6 a,i6 c]⟩,⟨lb,94,false,(secsV last)⟩,⟨z2,94,true,[u6 0,u6 0,u6 0,u6 0,u6 0,u6 0,u6 0,u6 0,u6 0,u6 0,u6 0,u6 0,u6 0,u6 0,u6 0,u6 0,u6 0,u6 0,u6 0,u6 0,u6 0,u6 0,u6 0,u6 0,u6 0,u6 0,u6 0,u6 0,u6 0,u6 0,u6 0,u6 0,u6 0,u6 0,u6 0,u6 0,u6 0,u6 0,u6 0,u6 0,u6 0,u6 0,u6 0,u6 0,u6 0,u6 0,u6 0,u6 0,u6 0,u6 0,u6 0,u6 0,u6 0,u6 0,u6 0,u6 0,u6 0,u6 0,u6 0,u6 0,u6 0,u6 0,u6 0,u6 0]⟩],[],z2 + 1⟩ ?_
 refine holds_opS (x:=Instr.storeAt 94 ((pt z2 0)) (secV L)) (prh_b2 n a c lb mb pb L last z2) (by kernel_rfl) (by kernel_rfl) rfl (fun wx hm=>?_) (fun z6 hz6=>?_)
 ·exact store_sec hm (i:=2) rfl rfl (by kernel_rfl) hL.1 (by kernel_rfl)
 replace hz6:z2 + 1 ≤ z6:=hz6
 refine hgE 16 [oh0,oh0,oh0,oh0,oh0] [4,5,34] [fF] [] [.ops [1,1,1,1,1,0] [1,2,3],.code [1,1,1,1,1,1]] ⟨[(4,sT ⟨#[]⟩),(5,i6 0),(34,.slice (some ⟨z2,0,none⟩) 64 64)],(prh_b2 n a c lb mb pb L last z2),[],z6⟩ ?_
 refine holds_opR (dst:=(some 35)) (x:=convert 40 9 (.slice (some ⟨z2,0,none⟩) 64 64)) (.string (bytesI L)) (by kernel_rfl) (by kernel_rfl) rfl (fun wx hm=>?_) ?_
 ·exact run_bytesAt (P:=Try.prog) wx 40 9 5 _ _ _ _ _ L [] [] (by kernel_rfl) (by kernel_rfl) (by kernel_rfl) (by have h:=hm.at_ 2 rfl; simpa [intsV] using h) rfl hL.1 hL.2
 refine hgE 6 [oh0,oh0] [4,5] [] [] [.code [1,1,1,1,1,1]] ⟨[(4,sT (bytesI L)),(5,i6 0)],(prh_b2 n a c lb mb pb L last z2),[],z6⟩ ?_
 refine hrt [] [sT (bytesI L),i6 0] [] ?_
 intro wx hm
 exact ⟨rfl,hm.kept⟩
@[simp] def prm_b1 (n:Nat) (a:Int) (c:Int) (lb:Nat) (mb:Nat) (pb:Nat) (last:List (List Int)):List Bk:=[⟨pb,90,false,[.slice (some ⟨lb,0,none⟩) n n,.map (some mb),.bool false,i6 a,i6 c]⟩,⟨lb,94,false,(secsV last)⟩]
@[simp] def prm_b2 (n:Nat) (a:Int) (c:Int) (lb:Nat) (mb:Nat) (pb:Nat) (last:List (List Int)) (z2:Nat):List Bk:=[⟨pb,90,false,[.slice (some ⟨lb,0,none⟩) n n,.map (some mb),.bool false,i6 a,i6 c]⟩,⟨lb,94,false,(secsV last)⟩,⟨z2,94,true,(intsV zeroSec)⟩]
@[simp] def prm_b3 (n:Nat) (a:Int) (c:Int) (lb:Nat) (mb:Nat) (pb:Nat) (L:List Int) (last:List (List Int)) (z2:Nat):List Bk:=[⟨pb,90,false,[.slice (some ⟨lb,0,none⟩) n n,.map (some mb),.bool false,i6 a,i6 c]⟩,⟨lb,94,false,(secsV last)⟩,⟨z2,94,true,(intsV L)⟩]
set_option maxRecDepth 100000 in
set_option maxHeartbeats 4000000 in
theorem read_miss (n lb mb pb:Nat) (a c k:Int) (hk:0 ≤ k ∧ k < (n:Int)) (cs:List CE) (ck:Nat) (last:List (List Int)) (L:List Int) (hL:SecOk L) (hne:¬pb = lb) (hv:valC cs k = none) (hsec:∀ L ∈ last,L.length = 64) (hk2:last[k.toNat]? = some L) (w:World) (hp:Blk w pb 90 [.slice (some ⟨lb,0,none⟩) n n,.map (some mb),.bool false,.int .i64 a,.int .i64 c]) (hl:Blk w lb 94 (secsV last)) (hmp:MapAt w mb cs ck) :
  Calls Try.prog 59 #[.pointer (some ⟨pb,0,none⟩),.int .i64 k] w (RetK (.tuple #[.string (bytesI L),.int .i64 0]) w):=by
 refine calls_of_holds (S:=(fun _=>False)) (l:=[(pt pb 0),.int .i64 k]) (n:=36) Try.func59 (body_of (by kernel_rfl)) rfl (by simp) (MemOk.start (bk:=(prm_b1 n a c lb mb pb last)) (wn:=[]) (by simpa using ⟨hp,hl⟩) (by simp) (by simp; exact hne) (by simp)) ?_
 refine hgE 23 [oh0,oh0,oh0,oh0,oh0,(oA 0 2 1),oh0,oh0,oh0] [0,1,4,5,12,13] [fF] [(pb,2,1)] [.ops [1,1,0,0] [2,3],.code [1,1,0,1],.code [1,1,1]] ⟨[(0,(pt pb 0)),(1,i6 k),(4,sT ⟨#[]⟩),(5,i6 0),(12,(pt pb 0)),(13,i6 k)],(prm_b1 n a c lb mb pb last),[],w.heap.size⟩ ?_
 refine hcp (.bool true) 57 [(pt pb 0),i6 k] (some 14) [] tI rfl (fun wx hm=>has_true n lb mb pb false a c k hk wx (hm.at_ 0 rfl)) fun z2 hz2=>?_
 replace hz2:w.heap.size ≤ z2:=hz2
 refine hgE 14 [oh0,oh0,oh0,oh0,oh0,(oA 0 1 1),oh0] [0,1,4,5,20,21] [fF] [(pb,1,1)] [.ops [1,1,1,0] [5,6,7,8,9,10,11],.code [1,1,1,1]] ⟨[(0,(pt pb 0)),(1,i6 k),(4,sT ⟨#[]⟩),(5,i6 0),(20,.map (some mb)),(21,i6 k)],(prm_b1 n a c lb mb pb last),[],z2⟩ ?_
 refine holds_opR (dst:=(some 22)) (x:=Instr.lookup 88 (.map (some mb)) (.int .i64 k) true) (.tuple #[secV zeroSec,.bool false]) (by kernel_rfl) (by kernel_rfl) rfl (fun wx hm=>?_) ?_
 ·have h:=run_look (P:=Try.prog) wx 88 3 94 .i64 mb cs ck k (by kernel_rfl) (by kernel_rfl) (by kernel_rfl) (hmp.kept hm.kept id)
  rw [lookC_val,hv] at h
  exact h
 refine hgE 7 [oh0,oh0,oh0,oh0] [0,1,4,5,6,23,24] [] [] [.ops [1,1,1,0] [10,11],.code [1,1,1,1]] ⟨[(0,(pt pb 0)),(1,i6 k),(4,sT ⟨#[]⟩),(5,i6 0),(6,(pt z2 0)),(23,secV zeroSec),(24,.bool false)],[⟨pb,90,false,[.slice (some ⟨lb,0,none⟩) n n,.map (some mb),.bool false,i6 a,i6 c]⟩,⟨lb,94,false,(secsV last)⟩,⟨z2,94,true,[u6 0,u6 0,u6 0,u6 0,u6 0,u6 0,u6 0,u6 0,u6 0,u6 0,u6 0,u6 0,u6 0,u6 0,u6 0,u6 0,u6 0,u6 0,u6 0,u6 0,u6 0,u6 0,u6 0,u6 0,u6 0,u6 0,u6 0,u6 0,u6 0,u6 0,u6 0,u6 0,u6 0,u6 0,u6 0,u6 0,u6 0,u6 0,u6 0,u6 0,u6 0,u6 0,u6 0,u6 0,u6 0,u6 0,u6 0,u6 0,u6 0,u6 0,u6 0,u6 0,u6 0,u6 0,u6 0,u6 0,u6 0,u6 0,u6 0,u6 0,u6 0,u6 0,u6 0,u6 0]⟩],[],z2 + 1⟩ ?_
 refine holds_opS (x:=Instr.storeAt 94 ((pt z2 0)) (secV zeroSec)) (prm_b2 n a c lb mb pb last z2) (by kernel_rfl) (by kernel_rfl) rfl (fun wx hm=>?_) (fun z6 hz6=>?_)
 ·exact store_sec hm (i:=2) rfl rfl (by kernel_rfl) secOk_zero.1 (by kernel_rfl)
 replace hz6:z2 + 1 ≤ z6:=hz6
 refine hgE 19 [oh0,oh0,oh0,oh1,oh0,oh0,oh0,(oA 0 0 1),oh0,oh2] [4,5,6,32] [tT,oE ((0:Int) ≤ k ∧ k < ((n:Nat):Int))] [(pb,0,1)] [.ops [1,1,1,1,0,1,0] [6,7],.code [1,1,1,1,1]] ⟨[(4,sT ⟨#[]⟩),(5,i6 0),(6,(pt z2 0)),(32,.pointer (some ⟨lb,0 + (Int.toNat k) * 64,none⟩))],(prm_b2 n a c lb mb pb last z2),[],z6⟩ ?_
 refine holds_opR (dst:=(some 33)) (x:=Instr.loadAt 94 (.pointer (some ⟨lb,0 + (Int.toNat k) * 64,none⟩))) (secV L) (by kernel_rfl) (by kernel_rfl) rfl (fun wx hm=>?_) ?_
 ·exact run_loadMany (P:=Try.prog) wx 94 5 64 _ _ _ _ (intsV L) (by kernel_rfl) (by rw [show (intsV L).length = 64 by simp [intsV,hL.1]]; kernel_rfl) (hm.at_ 1 rfl) (secsV_get hsec hk2)
 refine hgE 3 [] [4,5,6,33] [] [] [.ops [1,1,1,1,0,1,0] [7],.code [1,1,1,1,1]] ⟨[(4,sT ⟨#[]⟩),(5,i6 0),(6,(pt z2 0)),(33,secV L)],(prm_b2 n a c lb mb pb last z2),[],z6⟩ ?_
 refine holds_opS (x:=Instr.storeAt 94 ((pt z2 0)) (secV L)) (prm_b3 n a c lb mb pb L last z2) (by kernel_rfl) (by kernel_rfl) rfl (fun wx hm=>?_) (fun z10 hz10=>?_)
 ·exact store_sec hm (i:=2) rfl rfl (by kernel_rfl) hL.1 (by kernel_rfl)
 replace hz10:z6 ≤ z10:=hz10
 refine hgE 7 [oh0] [4,5,34] [] [] [.ops [1,1,1,1,1,0] [1,2,3],.code [1,1,1,1,1,1]] ⟨[(4,sT ⟨#[]⟩),(5,i6 0),(34,.slice (some ⟨z2,0,none⟩) 64 64)],(prm_b3 n a c lb mb pb L last z2),[],z10⟩ ?_
 refine holds_opR (dst:=(some 35)) (x:=convert 40 9 (.slice (some ⟨z2,0,none⟩) 64 64)) (.string (bytesI L)) (by kernel_rfl) (by kernel_rfl) rfl (fun wx hm=>?_) ?_
 ·exact run_bytesAt (P:=Try.prog) wx 40 9 5 _ _ _ _ _ L [] [] (by kernel_rfl) (by kernel_rfl) (by kernel_rfl) (by have h:=hm.at_ 2 rfl; simpa [intsV] using h) rfl hL.1 hL.2
 refine hgE 6 [oh0,oh0] [4,5] [] [] [.code [1,1,1,1,1,1]] ⟨[(4,sT (bytesI L)),(5,i6 0)],(prm_b3 n a c lb mb pb L last z2),[],z10⟩ ?_
 refine hrt [] [sT (bytesI L),i6 0] [] ?_
 intro wx hm
 exact ⟨rfl,hm.kept⟩
theorem read_pl (M:Pl) (pb:Nat) (k:Int) (hk:0 ≤ k ∧ k < (M.n:Int)) (hoff:M.off = false) (w:World) (hP:PlatAt 90 94 w pb M) :
  Calls Try.prog 59 #[.pointer (some ⟨pb,0,none⟩),.int .i64 k] w (RetK (.tuple #[.string (bytesI (readPl M k)),.int .i64 0]) w):=by
 have hS:=hP.ok.read k
 obtain ⟨h1,h2,h3,h4⟩:=hP
 have hls:=h4.lens
 obtain ⟨lb,mb,n,last,cs,ck,off,a,c⟩:=M
 dsimp only at hoff
 subst hoff
 unfold readPl at hS ⊢
 dsimp only at hS hls ⊢
 have hlen:last.length = n:=h4.len
 cases hv:valC cs k with
 | some L=>
  rw [hv] at hS
  exact read_hit n lb mb pb a c k hk cs ck last L hS h4.ne2 hv w h1 h2 h3
 | none=>
  rw [hv] at hS
  have hlt:k.toNat < last.length:=by rw [hlen]; dsimp only at hk; omega
  have e:last[k.toNat]? = some (last[k.toNat]?.getD zeroSec):=by rw [List.getElem?_eq_getElem hlt]; rfl
  exact read_miss n lb mb pb a c k hk cs ck last _ hS h4.ne2 hv hls e w h1 h2 h3
@[simp] def pfo_b1 (n:Nat) (a:Int) (c:Int) (lb:Nat) (mb:Nat) (pb:Nat):List Bk:=[⟨pb,90,false,[.slice (some ⟨lb,0,none⟩) n n,.map (some mb),.bool true,i6 a,i6 c]⟩]
set_option maxRecDepth 100000 in
set_option maxHeartbeats 4000000 in
theorem flush_off (n lb mb pb:Nat) (a c:Int)  (w:World) (hp:Blk w pb 90 [.slice (some ⟨lb,0,none⟩) n n,.map (some mb),.bool true,.int .i64 a,.int .i64 c]) :
  Calls Try.prog 60 #[.pointer (some ⟨pb,0,none⟩)] w (RetK (.int .i64 70) w):=by
 refine calls_of_holds (S:=(fun _=>False)) (l:=[(pt pb 0)]) (n:=29) Try.func60 (body_of (by kernel_rfl)) rfl (by simp) (MemOk.start (bk:=(pfo_b1 n a c lb mb pb)) (wn:=[]) (by simpa using hp) (by simp) (by simp) (by simp)) ?_
 refine hgE 11 [oh0,oh0] [0,2,5] [] [] [.ops [1,0,0] [1,2],.code [1,0,1],.code [1,1]] ⟨[(0,(pt pb 0)),(2,i6 0),(5,(pt pb 0))],(pfo_b1 n a c lb mb pb),[],w.heap.size⟩ ?_
 refine hcp (.bool false) 56 [(pt pb 0)] (some 6) [] tI rfl (fun wx hm=>act_off n lb mb pb a c wx (hm.at_ 0 rfl)) fun z2 hz2=>?_
 replace hz2:w.heap.size ≤ z2:=hz2
 refine hgE 10 [oh0,oh1,oh0] [0,2] [tT] [] [.code [1,0,1,0,1],.code [1,1]] ⟨[(0,(pt pb 0)),(2,i6 70)],(pfo_b1 n a c lb mb pb),[],z2⟩ ?_
 refine hrt [] [i6 70] [] ?_
 intro wx hm
 exact ⟨rfl,hm.kept⟩
def pfc_v1 (n:Nat) (a:Int) (c:Int) (lb:Nat) (mb:Nat):List Value:=(pwc_v1 n a c lb mb)
@[simp] def pfc_b1 (n:Nat) (a:Int) (c:Int) (lb:Nat) (mb:Nat) (pb:Nat):List Bk:=[⟨pb,90,true,[.slice (some ⟨lb,0,none⟩) n n,.map (some mb),.bool false,i6 a,i6 c]⟩]
set_option maxRecDepth 100000 in
set_option maxHeartbeats 4000000 in
theorem flush_cut (n lb mb pb:Nat) (a c:Int) (ha:0 ≤ a ∧ a < 4611686018427387904) (hc:0 ≤ c ∧ c < 4611686018427387904) (hc1:decide (c = 1) = true)  (w:World) (hp:Blk w pb 90 [.slice (some ⟨lb,0,none⟩) n n,.map (some mb),.bool false,.int .i64 a,.int .i64 c]) :
  Calls Try.prog 60 #[.pointer (some ⟨pb,0,none⟩)] w (fun e w'=>e = .returned (.int .i64 70) ∧ Blk w' pb 90 [.slice (some ⟨lb,0,none⟩) n n,.map (some mb),.bool (decide (c = 1)),.int .i64 (a + 1),.int .i64 (dn c)] ∧ Kept (fun x=>x = pb) w w'):=by
 refine calls_of_holds (S:=(fun x=>x = pb)) (l:=[(pt pb 0)]) (n:=29) Try.func60 (body_of (by kernel_rfl)) rfl (by simp) (MemOk.start (bk:=(pfc_b1 n a c lb mb pb)) (wn:=[]) (by simpa using hp) (by simp) (by simp) (by simp)) ?_
 refine hgE 11 [oh0,oh0] [0,2,5] [] [] [.ops [1,0,0] [1,2],.code [1,0,1],.code [1,1]] ⟨[(0,(pt pb 0)),(2,i6 0),(5,(pt pb 0))],(pfc_b1 n a c lb mb pb),[],w.heap.size⟩ ?_
 refine holds_callM (.bool (!decide (c = 1))) [⟨pb,90,true,(pfc_v1 n a c lb mb)⟩] (show _ = some (56,[(pt pb 0)],some 6,[]) by kernel_rfl) tI rfl (fun wx hm=>?_) fun z2 hz2=>?_
 ·refine (act_live n lb mb pb a c ha hc wx (hm.at_ 0 rfl)).mono fun e w' he=>?_
  obtain ⟨h7,h8,h9⟩:=he
  exact ⟨h7,hm.set1 0 rfl rfl h9 h8⟩
 replace hz2:w.heap.size ≤ z2:=hz2
 refine hgE 10 [oh0,oh1,oh0] [0,2] [oE ((!(!decide (c = 1))) = true) (by rw [show (!decide (c = 1)) = false from (by rw [hc1]; rfl)]; rfl)] [] [.code [1,0,1,0,1],.code [1,1]] ⟨[(0,(pt pb 0)),(2,i6 70)],[⟨pb,90,true,(pfc_v1 n a c lb mb)⟩],[],z2⟩ ?_
 refine hrt [] [i6 70] [] ?_
 intro wx hm
 exact ⟨rfl,hm.at_ 0 rfl,hm.kept⟩
def pfl_v1 (n:Nat) (a:Int) (c:Int) (lb:Nat) (mb:Nat):List Value:=(pwc_v1 n a c lb mb)
def pfl_n1:List Nat:=[1,1,0,1,0,0,1,1,0,1]
def pfl_n2:List OH:=[oh0,oh0,oh0,oh0,oh0,⟨false,0,[⟨false,0,1,1⟩]⟩]
@[simp] def pfl_b1 (n:Nat) (a:Int) (c:Int) (lb:Nat) (mb:Nat) (pb:Nat) (last1:List (List Int)):List Bk:=[⟨pb,90,true,(pfl_v1 n a c lb mb)⟩,⟨lb,94,true,(secsV last1)⟩]
@[simp] def pfl_b2 (n:Nat) (a:Int) (c:Int) (lb:Nat) (mb:Nat) (pb:Nat) (last1:List (List Int)) (W2:World) (en:CE):List Bk:=[⟨pb,90,true,(pfl_v1 n a c lb mb)⟩,⟨lb,94,true,(secsV last1)⟩,⟨W2.heap.size,94,true,(intsV en.L)⟩]
@[simp] def pfl_b3 (n:Nat) (a:Int) (c:Int) (lb:Nat) (mb:Nat) (pb:Nat) (last:List (List Int)):List Bk:=[⟨pb,90,true,[.slice (some ⟨lb,0,none⟩) n n,.map (some mb),.bool false,i6 a,i6 c]⟩,⟨lb,94,true,(secsV last)⟩]
@[simp] def pfl_b4 (n:Nat) (a:Int) (c:Int) (lb:Nat) (mb:Nat) (pb:Nat) (last:List (List Int)):List Bk:=[⟨pb,90,true,(pfl_v1 n a c lb mb)⟩,⟨lb,94,true,(secsV last)⟩]
def FlushI (n:Nat) (a:Int) (c:Int) (lb:Nat) (mb:Nat) (pb:Nat) (last:List (List Int)) (cs:List CE) (ck:Nat) (WA:World)  (m:Nat) (st:St) (W1:World):Prop:=
 ∃ (seen:Array Nat) (c0:Nat) (last1:List (List Int)) (z:Nat),m = (leftC cs seen).length ∧ ck ≤ c0 ∧ last1 = ovl last (seenC cs seen) ∧ ItAt W1 WA.heap.size mb ck seen c0 ∧ MapAt W1 mb cs ck ∧ st = ⟨[(0,(pt pb 0)),(2,.int .i64 0),(12,(pt WA.heap.size 0))],(pfl_b1 n a c lb mb pb last1),[],z⟩
def pfl_g17s (pb:Nat) (W2:World) (en:CE) (WA:World):List (Nat × Value):=[(0,(pt pb 0)),(2,i6 0),(3,i6 en.k),(4,(pt W2.heap.size 0)),(12,(pt WA.heap.size 0))]
def pfl_g17v (n:Nat) (lb:Nat) (pb:Nat) (en:CE):List (Option Value):=[some ((pt pb 0)),some ((pt pb 0)),some ((pt pb 0)),some (.slice (some ⟨lb,0,none⟩) n n),some (i6 en.k),some (secV en.L),some (.pointer (some ⟨lb,0 + (Int.toNat en.k) * 64,none⟩)),some (.tuple #[])]
def pfl_g17m (n:Nat) (a:Int) (c:Int) (lb:Nat) (mb:Nat) (pb:Nat) (last1:List (List Int)) (W2:World) (en:CE):List (List Bk):=[(pfl_b2 n a c lb mb pb last1 W2 en),[⟨pb,90,true,(pfl_v1 n a c lb mb)⟩,⟨lb,94,true,(secsV (List.set last1 (Int.toNat en.k) en.L))⟩,⟨W2.heap.size,94,true,(intsV en.L)⟩]]
def pfl_g17t:List (Option Nat):=[none,none,none,none,none,none,none,some 0]
def pfl_g17C (n:Nat) (a:Int) (c:Int) (lb:Nat) (mb:Nat) (pb:Nat) (last:List (List Int)) (last1:List (List Int)) (cs:List CE) (ck:Nat) (w:World) (W2:World) (J:Act → World → Prop) (en:CE) (WA:World) (z15:Nat) (i_:Nat):Prop:=CertG (wpOp Try.prog (opsOf (getCode (bodyOf Try.f60) pfl_n1)) (sem Try.prog (bodyOf Try.f60) (bodyPost Try.prog Try.f60 (fun e w'=>e = .returned (i6 0) ∧ Blk w' pb 90 (pfl_v1 n a c lb mb) ∧ Blk w' lb 94 (secsV (ovl last cs)) ∧ MapAt w' mb [] ck ∧ Kept (fun x=>x = pb ∨ x = lb ∨ x = mb) w w')) [.blk 1,.inv J,.blk 0,.code [1,1,1]])) [] 29 (opsOf (getCode (bodyOf Try.f60) pfl_n1)) (slI (opsOf (getCode (bodyOf Try.f60) pfl_n1)) (pfl_g17s pb W2 en WA) i_) (pfl_g17t) 1 (MG W2 (Turned (pfl_b1 n a c lb mb pb last1)) (pfl_g17m n a c lb mb pb last1 W2 en) [] z15) (Turned (pfl_b2 n a c lb mb pb last1 W2 en)) (PvG (pfl_g17v n lb pb en) (fun _ _ _=>False)) i_
set_option maxRecDepth 100000 in
set_option maxHeartbeats 4000000 in
theorem flush_live (n lb mb pb:Nat) (a c:Int) (ha:0 ≤ a ∧ a < 4611686018427387904) (hc:0 ≤ c ∧ c < 4611686018427387904) (hc1:decide (c = 1) = false) (cs:List CE) (ck:Nat) (last:List (List Int)) (hne:¬pb = lb) (hne1:pb ≠ mb) (hne3:lb ≠ mb) (hlen:last.length = n) (hsec:∀ L ∈ last,SecOk L) (hcs2:∀ c ∈ cs,SecOk c.L) (hck:∀ c ∈ cs,0 ≤ c.k ∧ c.k < (n:Int)) (hborn:∀ c ∈ cs,c.born < ck) (hnk:(cs.map (·.k)).Nodup) (hnb:(cs.map (·.born)).Nodup) (w:World) (hp:Blk w pb 90 [.slice (some ⟨lb,0,none⟩) n n,.map (some mb),.bool false,.int .i64 a,.int .i64 c]) (hl:Blk w lb 94 (secsV last)) (hmp:MapAt w mb cs ck) :
  Calls Try.prog 60 #[.pointer (some ⟨pb,0,none⟩)] w (fun e w'=>e = .returned (.int .i64 0) ∧ Blk w' pb 90 [.slice (some ⟨lb,0,none⟩) n n,.map (some mb),.bool (decide (c = 1)),.int .i64 (a + 1),.int .i64 (dn c)] ∧ Blk w' lb 94 (secsV (ovl last cs)) ∧ MapAt w' mb [] ck ∧ Kept (fun x=>x = pb ∨ x = lb ∨ x = mb) w w'):=by
 have hpl:=hp.lt
 have hll:=hl.lt
 have hml:=hmp.lt
 have hd:¬ (mb = pb):=fun e=>hne1 e.symm
 refine calls_of_holds (S:=(fun x=>x = pb ∨ x = lb)) (l:=[(pt pb 0)]) (n:=29) Try.func60 (body_of (by kernel_rfl)) rfl (by simp) (MemOk.start (bk:=(pfl_b3 n a c lb mb pb last)) (wn:=[]) (by simpa using ⟨hp,hl⟩) (by simp) (by simp; exact hne) (by simp)) ?_
 refine hgE 11 [oh0,oh0] [0,2,5] [] [] [.ops [1,0,0] [1,2],.code [1,0,1],.code [1,1]] ⟨[(0,(pt pb 0)),(2,i6 0),(5,(pt pb 0))],(pfl_b3 n a c lb mb pb last),[],w.heap.size⟩ ?_
 refine holds_callW (w:=w) (S':=(fun x=>x = pb ∨ x = lb ∨ x = mb)) (Y:=Nat) (fun _=>.bool (!decide (c = 1))) (fun _=>(pfl_b4 n a c lb mb pb last)) (fun _ W_=>MapAt W_ mb cs ck) (fun _=>[(6,.bool (!decide (c = 1))),(0,(pt pb 0)),(2,i6 0),(5,(pt pb 0))]) (show _ = some (56,[(pt pb 0)],some 6,[]) by kernel_rfl) tI (fun _=>rfl) (fun wx hm=>?_) (fun _ WA hMA hmA=>?_)
 ·refine (act_live n lb mb pb a c ha hc wx (hm.at_ 0 rfl)).mono fun e w' he=>?_
  obtain ⟨h7,h8,h9⟩:=he
  have h10:=(hm.set1 0 rfl rfl h9 h8).2
  exact ⟨0,h7,(hmp.kept hm.kept (fun e=>e.elim hd (fun e=>hne3 e.symm))).kept h9 hd,⟨h10.size,h10.blk,fun b hb hr=>(h10.own b hb hr).imp_left (fun h=>h.elim .inl (fun h=>.inr (.inl h))),h10.nd,h10.kept.mono (fun _ _ h=>h.elim .inl (fun h=>.inr (.inl h))),fun _ h=>by cases h⟩⟩
 have hgA:=hMA.lt
 refine hgE 14 pfl_n2 [0,2,11] [oE ((!(!decide (c = 1))) = false) (by rw [show (!decide (c = 1)) = true from (by rw [hc1]; rfl)]; rfl)] [(pb,1,1)] [.ops [1,1,0,0] [4],.code [1,1,0,1],.code [1,1,1]] ⟨[(0,(pt pb 0)),(2,i6 0),(11,.map (some mb))],(pfl_b4 n a c lb mb pb last),[],WA.heap.size⟩ ?_
 have hgw:w.heap.size ≤ WA.heap.size:=hmA.kept.size
 have hnMA:¬ Turned (pfl_b4 n a c lb mb pb last) mb:=by
  rintro ⟨b,hb,hr,he⟩
  simp at hb
  rcases hb with rfl | rfl <;> simp at he hr <;> omega
 refine holds_opW (w:=w) (S':=(fun x=>x = pb ∨ x = lb ∨ x = mb)) (dst:=(some 12)) (x:=Instr.range 88 (.map (some mb))) (fun _=>(pt WA.heap.size 0)) (fun _ W=>ItAt W WA.heap.size mb ck #[] ck ∧ MapAt W mb cs ck) (fun _=>[(12,(pt WA.heap.size 0)),(0,(pt pb 0)),(2,.int .i64 0),(11,.map (some mb))]) (by kernel_rfl) (by kernel_rfl) (fun _=>rfl) (fun wx hm=>?_) (fun _ W hX hmW=>?_)
 ·have hmx:MapAt wx mb cs ck:=hMA.kept hm.kept hnMA
  obtain ⟨w',h1,h2,h3⟩:=run_rangeC (P:=Try.prog) wx 88 3 94 mb cs ck (by kernel_rfl) hmx
  rw [hm.size] at h1 h2
  exact ⟨0,w',h1,⟨h2,hmx.kept h3 id⟩,((hmA.back hm).same h3).2⟩
 obtain ⟨hI0,hM0⟩:=hX
 refine hgE 5 [] [0,2,12] [] [] [.code [1,1,0,1,0],.blk 0,.code [1,1,1]] ⟨[(0,(pt pb 0)),(2,i6 0),(12,(pt WA.heap.size 0))],(pfl_b4 n a c lb mb pb last),[],W.heap.size⟩ ?_
 have hnM:¬ Turned (pfl_b4 n a c lb mb pb last) mb:=by
  rintro ⟨b,hb,hr,he⟩
  simp at hb
  rcases hb with rfl | rfl <;> simp at he hr <;> omega
 have hgM:WA.heap.size ≠ mb:=by omega
 have hnG:¬ Turned (pfl_b4 n a c lb mb pb last) WA.heap.size:=by
  rintro ⟨b,hb,hr,he⟩
  simp at hb
  rcases hb with rfl | rfl <;> simp at he hr <;> omega
 refine holds_loopW (w:=w) (S':=(fun x=>x = pb ∨ x = lb ∨ x = mb)) (FlushI n a c lb mb pb last cs ck WA) (leftC cs #[]).length (by kernel_rfl) (fun W1 hm=>⟨⟨#[],ck,last,_,rfl,Nat.le_refl _,by rw [seen_none,ovl_nil],hI0.kept hm.kept hnG,hM0.kept hm.kept hnM,rfl⟩,hmW.back hm⟩) ?_
 rintro m _ W1 ⟨seen,c0,last1,z,hmi,hcc,hl1,hI1,hM1,rfl⟩ hm1 J hJ
 replace hnM:¬ Turned (pfl_b1 n a c lb mb pb last1) mb:=by
  rintro ⟨b,hb,hr,he⟩
  simp at hb
  rcases hb with rfl | rfl <;> simp at he hr <;> omega
 replace hnG:¬ Turned (pfl_b1 n a c lb mb pb last1) WA.heap.size:=by
  rintro ⟨b,hb,hr,he⟩
  simp at hb
  rcases hb with rfl | rfl <;> simp at he hr <;> omega
 have hs1:∀ L ∈ last1,L.length = 64:=fun L hL=>(ovl_sec (cs:=seenC cs seen) hsec (fun c hc=>hcs2 c (List.mem_filter.1 hc).1) L (hl1 ▸ hL)).1
 have hn1:last1.length = n:=by rw [hl1,length_ovl,hlen]
 refine hgE 5 [] [0,2,12] [] [] [.ops [1,1,0,1,0,0,0] [0,1],.code [1,1,0,1,0,0,1],.inv J,.blk 0,.code [1,1,1]] ⟨[(0,(pt pb 0)),(2,i6 0),(12,(pt WA.heap.size 0))],(pfl_b1 n a c lb mb pb last1),[],W1.heap.size⟩ ?_
 refine holds_opY (w:=w) (S':=(fun x=>x = pb ∨ x = lb ∨ x = mb)) (dst:=(some 13)) (x:=Instr.next ((pt WA.heap.size 0)) false 0) nextV (fun y W2=>MapAt W2 mb cs ck ∧ ((y = none ∧ leftC cs seen = [] ∧ ItAt W2 WA.heap.size mb ck seen c0) ∨ (∃ c,y = some c ∧ c ∈ leftC cs seen ∧ ItAt W2 WA.heap.size mb ck (seen.push c.born) ck))) (fun y=>(13,nextV y) :: [(0,(pt pb 0)),(2,.int .i64 0),(12,(pt WA.heap.size 0))]) (by kernel_rfl) (by kernel_rfl) (fun _=>rfl) (fun wx hm=>?_) (fun y W2 hX hm2=>?_)
 ·obtain ⟨y,w',h1,h2,h3,h4⟩:=run_nextC (P:=Try.prog) wx 0 WA.heap.size mb ck c0 seen cs (hI1.kept hm.kept hnG) (hM1.kept hm.kept hnM) hborn hcc
  refine ⟨y,w',h1,⟨(hM1.kept hm.kept hnM).kept h2 (fun e=>hgM e.symm),h4⟩,?_⟩
  have h5:=(hm1.back hm).far h2 (by simp; omega) hgw h3
  have h6:=h5.size
  rw [← h6] at h5
  exact h5
 obtain ⟨hM2,hX⟩:=hX
 have hg2:=hM2.lt
 rcases hX with ⟨rfl,hle,hI2⟩ | ⟨en,rfl,hen,hI2⟩
 ·skip
  have hfin:last1 = ovl last cs:=by rw [hl1,seen_all hle]
  refine hgE 14 pfl_n2 [2,28] [fF] [(pb,1,1)] [.ops [1,1,1,0] [4],.code [1,1,1,1]] ⟨[(2,i6 0),(28,.map (some mb))],(pfl_b1 n a c lb mb pb last1),[],W2.heap.size⟩ ?_
  refine holds_opW (w:=w) (S':=(fun x=>x = pb ∨ x = lb ∨ x = mb)) (dst:=none) (x:=Builtin.clear_ #[88] 0 #[.map (some mb)]) (fun _=>.tuple #[]) (fun _ W3=>MapAt W3 mb [] ck) (fun _=>[(2,.int .i64 0),(28,.map (some mb))]) (by kernel_rfl) (by kernel_rfl) (fun _=>rfl) (fun wx hm=>?_) (fun _ W3 hX3 hm3=>?_)
  ·obtain ⟨w',h1,h2,h3,h4⟩:=run_clearC (P:=Try.prog) wx 88 3 94 0 mb cs ck (by kernel_rfl) (hM2.kept hm.kept hnM)
   refine ⟨0,w',h1,h2,?_⟩
   have h5:=hm2.back hm
   exact (h5.upd (bk':=(pfl_b1 n a c lb mb pb last1)) h3 (fun x _ e=>.inr (.inr e)) ⟨(h5.at_ 0 rfl).kept h3 (fun e=>hne1 e),(h5.at_ 1 rfl).kept h3 (fun e=>hne3 e),trivial⟩ h5.own h5.nd).2
  refine hgE 8 [oh0] [2] [] [] [.code [1,1,1,1,1]] ⟨[(2,i6 0)],(pfl_b1 n a c lb mb pb last1),[],W3.heap.size⟩ ?_
  refine hrt [] [i6 0] [] ?_
  intro wx hm
  refine ⟨rfl,hm.at_ 0 rfl,by rw [← hfin]; exact hm.at_ 1 rfl,hX3.kept hm.kept hnM,(hm3.back hm).kept⟩
 ·skip
  have hmem:=(List.mem_filter.1 hen).1
  have hke:=hck en hmem
  have hLe:=hcs2 en hmem
  refine hgE 11 [oh0,oh1] [0,2,12] [tT] [] [.ops [1,1,0,1,0,0,1,1,0,0] [0,1,2,3,4,5],.code pfl_n1,.blk 1,.inv J,.blk 0,.code [1,1,1]] ⟨[(0,(pt pb 0)),(2,i6 0),(12,(pt WA.heap.size 0))],(pfl_b1 n a c lb mb pb last1),[],W2.heap.size⟩ ?_
  refine holds_opR (dst:=(some 15)) (x:=Instr.entry ((pt WA.heap.size 0))) (.tuple #[.int .i64 en.k,secV en.L]) (by kernel_rfl) (by kernel_rfl) rfl (fun wx hm=>?_) ?_
  ·exact run_entryC (P:=Try.prog) wx WA.heap.size mb ck seen cs en (hI2.kept hm.kept hnG) (hM2.kept hm.kept hnM) hmem hnb
  refine hgE 7 [oh0,oh0,oh0,oh0] [0,2,3,4,12,17] [] [] [.ops [1,1,0,1,0,0,1,1,0,0] [5],.code pfl_n1,.blk 1,.inv J,.blk 0,.code [1,1,1]] ⟨[(0,(pt pb 0)),(2,i6 0),(3,i6 en.k),(4,(pt W2.heap.size 0)),(12,(pt WA.heap.size 0)),(17,secV en.L)],[⟨pb,90,true,(pfl_v1 n a c lb mb)⟩,⟨lb,94,true,(secsV last1)⟩,⟨W2.heap.size,94,true,[u6 0,u6 0,u6 0,u6 0,u6 0,u6 0,u6 0,u6 0,u6 0,u6 0,u6 0,u6 0,u6 0,u6 0,u6 0,u6 0,u6 0,u6 0,u6 0,u6 0,u6 0,u6 0,u6 0,u6 0,u6 0,u6 0,u6 0,u6 0,u6 0,u6 0,u6 0,u6 0,u6 0,u6 0,u6 0,u6 0,u6 0,u6 0,u6 0,u6 0,u6 0,u6 0,u6 0,u6 0,u6 0,u6 0,u6 0,u6 0,u6 0,u6 0,u6 0,u6 0,u6 0,u6 0,u6 0,u6 0,u6 0,u6 0,u6 0,u6 0,u6 0,u6 0,u6 0,u6 0]⟩],[],W2.heap.size + 1⟩ ?_
  refine holds_opS (x:=Instr.storeAt 94 ((pt W2.heap.size 0)) (secV en.L)) (pfl_b2 n a c lb mb pb last1 W2 en) (by kernel_rfl) (by kernel_rfl) rfl (fun wx hm=>?_) (fun z15 hz15=>?_)
  ·exact store_sec hm (i:=2) rfl rfl (by kernel_rfl) hLe.1 (by kernel_rfl)
  replace hz15:W2.heap.size + 1 ≤ z15:=hz15
  refine hgE 4 [] [0,2,3,4,12] [] [] [.code pfl_n1,.blk 1,.inv J,.blk 0,.code [1,1,1]] ⟨[(0,(pt pb 0)),(2,i6 0),(3,i6 en.k),(4,(pt W2.heap.size 0)),(12,(pt WA.heap.size 0))],(pfl_b2 n a c lb mb pb last1 W2 en),[],z15⟩ ?_
  have pfl_g17_c5:pfl_g17C n a c lb mb pb last last1 cs ck w W2 J en WA z15 5:=cert_op (by
    intro j a_ wx hj hjs hcap hf hk_ hm
    obtain ⟨bk,hb,hz,hM⟩:=hm
    have hj0:j = 0:=by
     have h:=hcap 7 0 (by kernel_rfl) (List.mem_of_getElem? (i:=1) (by kernel_rfl))
     omega
    subst hj0
    have hb':some (pfl_b2 n a c lb mb pb last1 W2 en) = some bk:=hb
    cases hb'
    exact ⟨_,Instr.loadAt 94 ((pt W2.heap.size 0)),_,wx,hf,by kernel_rfl,by kernel_rfl,run_loadMany (P:=Try.prog) wx 94 5 64 _ _ _ _ (intsV en.L) (by kernel_rfl) (by rw [show (intsV en.L).length = 64 by simp [intsV,hLe.1]]; kernel_rfl) (hM.at_ 2 rfl) (fun j v h=>by rw [Nat.zero_add]; exact h),(rfl:secV en.L = _),Kept.refl _ _,_,by kernel_rfl,hz,hM⟩)
  have pfl_g17_c7:pfl_g17C n a c lb mb pb last last1 cs ck w W2 J en WA z15 7:=cert_opS (by
    intro j a_ wx hj hjs hf hk_ hm
    obtain ⟨rfl,_⟩:=hjs 0 (by kernel_rfl)
    obtain ⟨bk,hb,hz,hM⟩:=hm
    have hb':some (pfl_b2 n a c lb mb pb last1 W2 en) = some bk:=hb
    cases hb'
    obtain ⟨w',h1,h2,h3,h4⟩:=store_row (P:=Try.prog) (t:=94) hM (i:=1) rfl hs1 (k:=Int.toNat en.k) (by omega) hLe.1 (by kernel_rfl)
    exact ⟨_,_,_,hf,by kernel_rfl,by kernel_rfl,h1,(rfl:undef = _),h2.mono (fun k _ e=>⟨⟨lb,94,true,secsV last1⟩,List.mem_of_getElem? (i:=1) (by kernel_rfl),rfl,e.symm⟩),_,by kernel_rfl,Nat.le_trans hz h3,h4⟩)
  have pfl_g17_R:∀ e_ ∈ (rZs [0,1,2,4] ++ [⟨3,⟨false,0,[⟨false,0,0,1⟩]⟩,[],[(pb,0,1)]⟩,⟨6,oh2,[oE ((0:Int) ≤ en.k ∧ en.k < ((n:Nat):Int))],[]⟩]:List RegE),pfl_g17C n a c lb mb pb last last1 cs ck w W2 J en WA z15 e_.i:=certs_reg (by kernel_rfl) _ (fun sz=>by kernel_rfl)
  refine holds_mixG (vs:=(pfl_g17v n lb pb en)) (ms:=(pfl_g17m n a c lb mb pb last1 W2 en)) (stg:=(pfl_g17t)) (J:=1) (sl':=[(0,(pt pb 0)),(2,i6 0),(12,(pt WA.heap.size 0))]) (bk':=[⟨pb,90,true,(pfl_v1 n a c lb mb)⟩,⟨lb,94,true,(secsV (List.set last1 (Int.toNat en.k) en.L))⟩,⟨W2.heap.size,94,true,(intsV en.L)⟩]) (fun _ _ _=>False) [0,2,12] (by kernel_rfl) (by kernel_rfl) (by kernel_rfl) (fun _ _ _ _ h=>h.elim) (certs_mix pfl_g17_R [5,7] ⟨pfl_g17_c5,pfl_g17_c7,tI⟩ (by kernel_rfl)) (by kernel_rfl) (by kernel_rfl) (by kernel_rfl) (fun z17 hz17=>?_)
  replace hz17:z15 ≤ z17:=hz17
  refine holds_go (f:=4) (hs:=[]) [0,2,12] [true,true,false] (show _ = some (Res.mk [] (dupR []) [.inv J,.blk 0,.code [1,1,1]] ⟨[(0,(pt pb 0)),(2,.int .i64 0),(12,(pt WA.heap.size 0))],[⟨pb,90,true,(pfl_v1 n a c lb mb)⟩,⟨lb,94,true,(secsV (List.set last1 (Int.toNat en.k) en.L))⟩],[],z17⟩) by kernel_rfl) trivial ?_
  intro a w3 hf hm
  have hlt:=leftC_push hen
  exact hJ (leftC cs (seen.push en.born)).length _ a w3 (by omega) ⟨seen.push en.born,ck,List.set last1 (Int.toNat en.k) en.L,_,rfl,Nat.le_refl _,by rw [hl1]; exact ovl_step hnk hnb hen hke.1,hI2.kept hm.kept hnG,hM2.kept hm.kept hnM,rfl⟩ hf (hm2.back2 hm)
end Go.Proofs.Ytpilmccjjbgmiaa
