import Derived.Test.YtcmpkkapkdlfhaaGreatTwo17
import Derived.Laws.OwnMore
namespace Go.Proofs.YtcmpkkapkdlfhaaGreat
open Go.RowKit
set_option maxHeartbeats 4000000
set_option maxRecDepth 100000
def allB:List ByteArray->ByteArray
 |[]=>⟨#[]⟩
 |t::R=>R.foldl xorS t
theorem allB_one{L:List ByteArray}{t:ByteArray}(h:L[0]?=some t):allB (L.take 1)=t:=by
 cases L with
 |nil=>cases h
 |cons x R=>cases h; rfl
theorem xorS_size{a b:ByteArray}(ha:a.size=16)(hb:b.size=16):(xorS a b).size=16:=by
 rw[xorS,size_bytesI,xorI_len (by rw[length_intsOf,length_intsOf,ha,hb]),length_intsOf,ha]
theorem foldl_size{R:List ByteArray}(hR:∀x∈R,x.size=16):∀{t:ByteArray},t.size=16->(R.foldl xorS t).size=16:=by
 induction R with
 |nil=>exact fun h=>h
 |cons x R ih=>exact fun h=>ih (fun y hy=>hR y (List.mem_cons_of_mem _ hy)) (xorS_size h (hR x List.mem_cons_self))
theorem allB_size{L:List ByteArray}(hL:∀x∈L,x.size=16)(h:1<=L.length):(allB L).size=16:=by
 cases L with
 |nil=>simp at h
 |cons t R=>exact foldl_size (fun y hy=>hL y (List.mem_cons_of_mem _ hy)) (hL t List.mem_cons_self)
theorem allB_snoc{L:List ByteArray}{i:Nat}{t:ByteArray}(hi:1<=i)(h:L[i]?=some t):allB (L.take (i+1))=xorS (allB (L.take i)) t:=by
 cases L with
 |nil=>cases h
 |cons x R=>
  obtain⟨j,rfl⟩:∃j,i=j+1:=⟨i-1,by omega⟩
  have h':R[j]?=some t:=h
  show(R.take (j+1)).foldl xorS x=xorS ((R.take j).foldl xorS x) t
  rw[List.take_add_one,h',List.foldl_append]
  rfl
def All1I(L:List ByteArray)(gL:Nat)(cp:Nat)(w:World)  (m:Nat) (st:St) (W0:World):Prop:=
 ∃(i:Nat)(z:Nat),m+i=L.length∧1<=i∧w.heap.size<=W0.heap.size∧st=⟨[(0,.slice (some ⟨gL,0,none⟩) L.length cp),(2,sT ⟨#[]⟩),(3,i6 0),(4,sT (allB (L.take i))),(5,i6 0),(6,i6 (i:Int))],[],[],z⟩
theorem ref1all(L:List ByteArray)(hL:∀t∈L,t.size=16)(hll:1<=L.length∧L.length<=100)(gL cp:Nat)(w:World)(hgL:gL<w.heap.size)(hc:∀(j:Nat)(v:Value),(strsV L)[j]?=some v->w.cell? ⟨gL,0+j,none⟩=some v) :
  Calls Tryz.prog 43 #[.slice (some ⟨gL,0,none⟩) L.length cp] w (RetK (.tuple #[sT (allB L),i6 0]) w):=by
 refine cH (S:=(fun _=>False)) (n:=34) Tryz.func43 (MemOk.none w _) ?_
 obtain⟨t,ht⟩:∃t,L[0]?=some t:=⟨_,List.getElem?_eq_getElem (by omega)⟩
 refine holds_wins [⟨gL,0+0*1,[sT t]⟩] (fun _ y hy=>?_) ?_
 ·simp only[List.mem_cons,List.not_mem_nil,or_false]at hy
  subst hy
  exact⟨(fun h=>h),hgL,fun j v hj=>strs_cell hc ht j v hj⟩
 refine hgE 34 [oh0,oh0,oh0,oh0,oh0,oh0,oh0,oh2,⟨false,0,[⟨true,0,0,1⟩]⟩,oh0,oh0,oh0] [0,2,3,4,5,6] [oE ((((L.length:Nat):Int)==0)=false) (beq_eq_false_iff_ne.2 (by omega)),oE ((0:Int)<=0∧0<((L.length:Nat):Int))] [(gL,0,1)] [.code [1,1,1,1,0,1,0],.blk 0,.code [1,1,1,1,1]] ⟨[(0,.slice (some ⟨gL,0,none⟩) L.length cp),(2,sT ⟨#[]⟩),(3,i6 0),(4,sT t),(5,i6 0),(6,i6 1)],[],[⟨gL,0,[sT t]⟩],w.heap.size⟩ ?_
 refine holds_wins [] (fun _ _ h=>by cases h) ?_
 refine holds_loopW (w:=w) (S':=fun _=>False) (All1I L gL cp w) (L.length-1) (by kernel_rfl) (fun W0 hm=>⟨⟨1,_,by omega,by omega,hm.kept.size,by rw[allB_one ht]; rfl⟩,hm.wide (fun _ h=>h)⟩) ?_
 rintro m _ W2 ⟨i,z,hmi,hi1,hsz,rfl⟩ hm2 J hJ
 by_cases h1:i<L.length
 rotate_left
 ·skip
  refine hgS 24 (dz 13 1073741824) [2,3] (rE 3 (dF (((i:Int):Int)<((L.length:Nat):Int)))++[fF]) [] [.code [1,1,1,1,1,1]] [] [] W2.heap.size ?_
  refine hrt [] [sT (allB (L.take i)),i6 0] [] ?_
  intro wx hm
  refine⟨?_,(MemOk.bck hm2 hm).kept⟩
  rw[List.take_of_length_le (by omega)]
  rfl
 clear ht t
 obtain⟨t,ht⟩:∃t,L[i]?=some t:=⟨_,List.getElem?_eq_getElem h1⟩
 have ht16:=hL t (List.mem_of_getElem? ht)
 refine holds_wins [⟨gL,0+i*1,[sT t]⟩] (fun _ y hy=>?_) ?_
 ·simp only[List.mem_cons,List.not_mem_nil,or_false]at hy
  subst hy
  exact⟨(fun⟨_,h,_⟩=>by cases h),Nat.lt_of_lt_of_le hgL hm2.kept.size,fun j v hj=>cell_kept hm2.kept hgL (strs_cell hc ht j v hj)⟩
 refine hgS 25 [oh0,oh0,oh0,oh0,oh0,oh1,oh1,oh3,oh1,oh0,oh0,oh0,oh2,⟨false,0,[⟨true,0,0,1⟩]⟩] [0,2,3,4,5,6,24,28] (rE 3 (dT (((i:Int):Int)<((L.length:Nat):Int)))++[tT,oE ((0:Int)<=(i:Int)∧(i:Int)<((L.length:Nat):Int))]) [(gL,0+i*1,1)] [.ops [1,1,1,1,0,1,0,0,1,0,0] [5,6,7,8,9,10],.blk 1,.code [1,1,1,1,0,1,0,0,1,1],.inv J,.blk 0,.code [1,1,1,1,1]] [] [⟨gL,0+i*1,[sT t]⟩] W2.heap.size ?_
 refine hcq (.tuple #[sT (xorS (allB (L.take i)) t),i6 0]) 74 [sT (allB (L.take i)),sT t] (some 29) [] tI rfl (fun wx hm=>ref1two _ _ (allB_size (fun x hx=>hL x (List.mem_of_mem_take hx)) (by rw[List.length_take]; omega)) ht16 wx) fun z5 hz5=>?_
 refine holds_wins [] (fun _ _ h=>by cases h) ?_
 refine hgE 15 (dz 8 33554432) [0,2,3,4,5,6] [n64 (((i:Int)+1))] [] [.inv J,.blk 0,.code [1,1,1,1,1]] ⟨[(0,.slice (some ⟨gL,0,none⟩) L.length cp),(2,sT ⟨#[]⟩),(3,i6 0),(4,sT (xorS (allB (L.take i)) t)),(5,i6 0),(6,i6 ((i:Int)+1))],[],[],z5⟩ ?_
 rw[<-cast_succ i]
 intro a_ w9 hf hm
 exact hJ (m-1) _ a_ w9 (by omega) ⟨i+1,_,by omega,by omega,Nat.le_trans hsz hm.kept.size,by rw[allB_snoc hi1 ht]⟩ hf (MemOk.bck hm2 hm)
end Go.Proofs.YtcmpkkapkdlfhaaGreat
namespace Go.Proofs.YtcmpkkapkdlfhaaGreat
open Go.RowKit
structure PartM where
 col:Int
 blk:ByteArray
 (opn don:Bool)
def PartM.cells(p:PartM):List Value:=[.int .i64 p.col,.string p.blk,.bool p.opn,.bool p.don]
theorem part_len(p:PartM):p.cells.length=4:=rfl
def stateL:List PartM->Int->Int
 |[],s=>s
 |p::l,s=>bif p.opn then stateL l (bif p.don then s else 1)else 0
theorem stateL_drop{L:List PartM}{i:Nat}{p:PartM}(h:L[i]?=some p)(s:Int):stateL (L.drop i) s=bif p.opn then stateL (L.drop (i+1)) (bif p.don then s else 1)else 0:=by
 have hi:=(List.getElem?_eq_some_iff.1 h).1
 have:L.drop i=p::L.drop (i+1):=by
  rw[List.drop_eq_getElem_cons hi,(List.getElem?_eq_some_iff.1 h).2]
 rw[this]
 rfl
theorem stateL_end{L:List PartM}{i:Nat}(h:L.length<=i)(s:Int):stateL (L.drop i) s=s:=by
 rw[List.drop_of_length_le h]
 rfl
def openP(c:Int)(p:PartM):PartM:=if p.col=c then{ p with opn:=true }else p
def doneP(c:Int)(p:PartM):PartM:=if p.col=c then{ p with don:=true }else p
def upTo(F:PartM->PartM)(i:Nat)(L:List PartM):List PartM:=(L.take i).map F++L.drop i
theorem upTo_zero(F:PartM->PartM)(L:List PartM):upTo F 0 L=L:=by simp[upTo]
theorem upTo_all{F:PartM->PartM}{L:List PartM}{i:Nat}(h:L.length<=i):upTo F i L=L.map F:=by
 rw[upTo,List.take_of_length_le h,List.drop_of_length_le h,List.append_nil]
theorem upTo_get{F:PartM->PartM}{L:List PartM}{i:Nat}{p:PartM}(h:L[i]?=some p):(upTo F i L)[i]?=some p:=by
 have hi:=(List.getElem?_eq_some_iff.1 h).1
 have h1:((L.take i).map F).length=i:=by simp; omega
 rw[upTo,List.getElem?_append_right (by omega),h1,Nat.sub_self,List.getElem?_drop,Nat.add_zero,h]
theorem upTo_set{F:PartM->PartM}{L:List PartM}{i:Nat}{p:PartM}(h:L[i]?=some p):(upTo F i L).set i (F p)=upTo F (i+1) L:=by
 have hi:=(List.getElem?_eq_some_iff.1 h).1
 have h1:((L.take i).map F).length=i:=by simp; omega
 unfold upTo
 rw[List.set_append_right _ _ (by omega),h1,Nat.sub_self,List.drop_eq_getElem_cons hi,List.set_cons_zero,List.take_add_one,h]
 simp
theorem upTo_same{F:PartM->PartM}{L:List PartM}{i:Nat}{p:PartM}(h:L[i]?=some p)(hp:F p=p):upTo F (i+1) L=upTo F i L:=by
 rw[<-upTo_set h,hp,set_sameG (upTo_get h)]
def prepQ(st e s mask:Int)(p:PartM):AskM:=⟨4,st,e,s,mask,0,0,0,p.blk⟩
def commQ(st e s:Int)(_:PartM):AskM:=⟨5,st,e,s,0,0,0,0,⟨#[]⟩⟩
def colC(p:PartM):List Value:=[.int .i64 p.col]
def prepC(st e s mask:Int)(p:PartM):List Value:=(prepQ st e s mask p).cells
def commC(st e s:Int)(p:PartM):List Value:=(commQ st e s p).cells
theorem state_prep{L:List PartM}(hn:0<L.length)(h:∀q∈L,q.opn=false):stateL L 2=0:=by
 cases L with
 |nil=>simp at hn
 |cons p l=>simp[stateL,h p (by simp)]
theorem state_comm{L:List PartM}(hn:0<L.length)(h:∀q∈L,q.opn=true∧q.don=false):stateL L 2=1:=by
 have H:∀(l:List PartM),(∀q∈l,q.opn=true∧q.don=false)->stateL l 1=1:=by
  intro l
  induction l with
  |nil=>intro _; rfl
  |cons p l ih=>
   intro h
   have h1:=h p (by simp)
   simp[stateL,h1.1,h1.2,ih (fun q hq=>h q (by simp[hq]))]
 cases L with
 |nil=>simp at hn
 |cons p l=>
  have h1:=h p (by simp)
  simp[stateL,h1.1,h1.2,H l (fun q hq=>h q (by simp[hq]))]
def mskC(C:List Int):Int:=C.foldl (fun m c=>orZ m (1*((2^Int.toNat c:Nat):Int))) 0
theorem mskC_snoc(C:List Int)(c:Int):mskC (C++[c])=orZ (mskC C) (1*((2^Int.toNat c:Nat):Int)):=by simp[mskC]
theorem pow_bd{c:Int}(h:0<=c∧c<6):1<=((2^Int.toNat c:Nat):Int)∧((2^Int.toNat c:Nat):Int)<=32:=by
 obtain⟨k,rfl⟩:∃k:Nat,c=(k:Int):=⟨c.toNat,by omega⟩
 have hk:k<6:=by omega
 rw[Int.toNat_natCast]
 match k,hk with
 |0,_=>decide
 |1,_=>decide
 |2,_=>decide
 |3,_=>decide
 |4,_=>decide
 |5,_=>decide
theorem orZ_bd{a b:Int}(ha:0<=a∧a<=63)(hb:0<=b∧b<=63):0<=orZ a b∧orZ a b<=63:=by
 have h:=Nat.or_lt_two_pow (x:=a.toNat) (y:=b.toNat) (n:=6) (by omega) (by omega)
 unfold orZ
 omega
theorem mskC_bd:∀(C:List Int),(∀c∈C,0<=c∧c<6)->0<=mskC C∧mskC C<=63:=by
 intro C
 suffices H:∀(C:List Int)(m:Int),0<=m∧m<=63->(∀c∈C,0<=c∧c<6)->0<=C.foldl (fun m c=>orZ m (1*((2^Int.toNat c:Nat):Int))) m∧C.foldl (fun m c=>orZ m (1*((2^Int.toNat c:Nat):Int))) m<=63 from H C 0 (by omega)
 intro C
 induction C with
 |nil=>intro m hm _; exact hm
 |cons c C ih=>
  intro m hm hC
  have h1:=pow_bd (hC c (by simp))
  exact ih _ (orZ_bd hm (by omega)) (fun d hd=>hC d (by simp[hd]))
def partsL(C:List Int)(B:List ByteArray):List PartM:=List.zipWith (fun c b=>⟨c,b,false,false⟩) C B
theorem partsL_len{C:List Int}{B:List ByteArray}{n:Nat}(hC:C.length=n)(hB:B.length=n):(partsL C B).length=n:=by simp[partsL,hC,hB]
theorem partsL_take{C:List Int}{B:List ByteArray}{i:Nat}{c:Int}{b:ByteArray}(hC:C[i]?=some c)(hB:B[i]?=some b):(partsL C B).take (i+1)=(partsL C B).take i++[⟨c,b,false,false⟩]:=by
 have:(partsL C B)[i]?=some ⟨c,b,false,false⟩:=by
  rw[partsL,List.getElem?_zipWith,hC,hB]
 rw[List.take_add_one,this]
 rfl
theorem take_snocG{α:Type}{L:List α}{i:Nat}{x:α}(h:L[i]?=some x):L.take (i+1)=L.take i++[x]:=by rw[List.take_add_one,h]; rfl
theorem run_min3{P:Program}(w:World)(ts:Array TypeId)(t:TypeId)(x y z:Int):(Builtin.min_ ts t #[.int .i64 x,.int .i64 y,.int .i64 z]).run P w=.ok (.int .i64 (minZ (minZ x y) z)) w:=by
 simp[Builtin.min_,Builtin.min2,minZ]
 rfl
theorem and63{i:Nat}(h:i<6):andZ (63/((2^Int.toNat (i:Int):Nat):Int)) 1=1:=by
 rw[Int.toNat_natCast]
 match i,h with
 |0,_=>decide
 |1,_=>decide
 |2,_=>decide
 |3,_=>decide
 |4,_=>decide
 |5,_=>decide
def natC(k:Nat):List Value:=[.int .i64 (k:Int)]
theorem range_take{n i:Nat}(h:i<n):(List.range n).take (i+1)=(List.range n).take i++[i]:=take_snocG (by simp[h])
theorem rep_cell{w:World}{g n i:Nat}(hc:∀(j:Nat)(v:Value),(List.replicate n (Value.bool true))[j]?=some v->w.cell? ⟨g,0+j,none⟩=some v)(hi:i<n):∀(j:Nat)(v:Value),[Value.bool true][j]?=some v->w.cell? ⟨g,0+i*1+j,none⟩=some v:=by
 rw[<-List.map_replicate (f:=Value.bool)]at hc
 exact map_cell (f:=Value.bool) hc (List.getElem?_replicate_of_lt hi)
theorem rec_len(r:RecM):r.cells.length=10:=rfl
theorem flat_cell{α:Type}{f:α->List Value}{w:World}{g z:Nat}{L:List α}(hf:∀x,(f x).length=z)(hc:∀(j:Nat)(v:Value),(flatV f L)[j]?=some v->w.cell? ⟨g,0+j,none⟩=some v){i:Nat}{x:α}(hx:L[i]?=some x):∀(j:Nat)(v:Value),(f x)[j]?=some v->w.cell? ⟨g,0+i*z+j,none⟩=some v:=by
 intro j v hj
 have hjz:j<z:=by rw[<-hf x]; exact(List.getElem?_eq_some_iff.1 hj).1
 rw[Nat.add_assoc]
 exact hc _ _ ((flatV_get hf hx hjz).trans hj)
end Go.Proofs.YtcmpkkapkdlfhaaGreat
namespace Go.Proofs.YtcmpkkapkdlfhaaGreat
open Go.RowKit
set_option maxHeartbeats 4000000
set_option maxRecDepth 100000
theorem onesV_app(a b:List OneM):onesV a++onesV b=onesV (a++b):=by simp[onesV]
theorem onesV_one(l:List OneM):∀u∈onesV l,u.oneCell'=true:=by
 intro u hu
 simp only[onesV,List.mem_flatten,List.mem_map]at hu
 obtain⟨_,⟨o,_,rfl⟩,hu⟩:=hu
 simp only[OneM.cells,List.mem_cons,List.not_mem_nil,or_false]at hu
 rcases hu with rfl|rfl|rfl|rfl|rfl|rfl|rfl|rfl|rfl|rfl|rfl|rfl|rfl<;>rfl
def dela_n1:Array Bool:=(bA 8 0)
def dela_n2:Array Bool:=(bA 8 27)
def dela_n3:Array Bool:=(bA 8 63)
section
variable (g n cp i:Nat)(w:World)(z3:Nat)
def dela_Q(base:Nat)(l:List OneM)(w:World):Exit->Act->World->Prop:=bodyPost Tryz.prog Tryz.f73 (fun e w'=>e=.returned (.slice (some ⟨g,0,none⟩) (n-1) cp)∧OwnR w' base 141 13 (some ⟨g,0,none⟩) (n-1) cp (onesV (l.eraseIdx i))∧Kept (fun x=>x=g) w w')
theorem dela_t2:tailP [0,6,7,20,21,23,24] (tailX Tryz.prog 33 (opsOf (getCode (bodyOf Tryz.f73) [1,1,1,1,0])) 8 dela_n1 ⟨[(0,.slice (some ⟨g,0,none⟩) n cp),(1,i6 (i:Int)),(2,i6 ((i:Int)+1)),(6,.slice none 0 0),(7,i6 (n:Int))],[],[],w.heap.size⟩ [(0,true,oh0),(1,true,oh0),(3,true,oh0),(4,true,oh0)])=some (⟨[],dupR [],⟨[(0,.slice (some ⟨g,0,none⟩) n cp),(6,.slice none 0 0),(7,i6 (n:Int)),(20,.slice (some ⟨g,0,none⟩) n cp),(21,i6 (i:Int)),(23,.slice (some ⟨g,0,none⟩) n cp),(24,i6 ((i:Int)+1))],[],[],w.heap.size⟩⟩,4,dela_n2):=by kernel_rfl
theorem dela_e4:Out.prune [0,6,7,22,25] (opStep Tryz.prog 33 (opsOf (getCode (bodyOf Tryz.f73) [1,1,1,1,0])) ⟨[(0,.slice (some ⟨g,0,none⟩) n cp),(6,.slice none 0 0),(7,i6 (n:Int)),(22,.slice (some ⟨g,0,none⟩) i cp),(23,.slice (some ⟨g,0,none⟩) n cp),(24,i6 ((i:Int)+1))],[],[],z3⟩ 5 oh3)=some ⟨[((0:Int)<=((i:Int)+1)∧((i:Int)+1)<=((n:Nat):Int))∧True],dupR [],⟨[(0,.slice (some ⟨g,0,none⟩) n cp),(6,.slice none 0 0),(7,i6 (n:Int)),(22,.slice (some ⟨g,0,none⟩) i cp),(25,.slice (some ⟨g,(bif Nat.beq cp (i+1)then 0 else 0+(i+1)*13),none⟩) (n-(i+1)) (cp-(i+1)))],[],[],z3⟩⟩:=by kernel_rfl
theorem dela_e5:Out.prune [0,6,7,22,25] (opStep Tryz.prog 33 (opsOf (getCode (bodyOf Tryz.f73) [1,1,1,1,0])) ⟨[(0,.slice (some ⟨g,0,none⟩) n cp),(6,.slice none 0 0),(7,i6 (n:Int)),(20,.slice (some ⟨g,0,none⟩) n cp),(21,i6 (i:Int)),(25,.slice (some ⟨g,(bif Nat.beq cp (i+1)then 0 else 0+(i+1)*13),none⟩) (n-(i+1)) (cp-(i+1)))],[],[],z3⟩ 2 oh2)=some ⟨[(0:Int)<=(i:Int)∧(i:Int)<=((cp:Nat):Int)],dupR [],⟨[(0,.slice (some ⟨g,0,none⟩) n cp),(6,.slice none 0 0),(7,i6 (n:Int)),(22,.slice (some ⟨g,0,none⟩) i cp),(25,.slice (some ⟨g,(bif Nat.beq cp (i+1)then 0 else 0+(i+1)*13),none⟩) (n-(i+1)) (cp-(i+1)))],[],[],z3⟩⟩:=by kernel_rfl
theorem dela_e6:Out.prune [0,6,7,22,23,24] (opStep Tryz.prog 33 (opsOf (getCode (bodyOf Tryz.f73) [1,1,1,1,0])) ⟨[(0,.slice (some ⟨g,0,none⟩) n cp),(6,.slice none 0 0),(7,i6 (n:Int)),(20,.slice (some ⟨g,0,none⟩) n cp),(21,i6 (i:Int)),(23,.slice (some ⟨g,0,none⟩) n cp),(24,i6 ((i:Int)+1))],[],[],z3⟩ 2 oh2)=some ⟨[(0:Int)<=(i:Int)∧(i:Int)<=((cp:Nat):Int)],dupR [],⟨[(0,.slice (some ⟨g,0,none⟩) n cp),(6,.slice none 0 0),(7,i6 (n:Int)),(22,.slice (some ⟨g,0,none⟩) i cp),(23,.slice (some ⟨g,0,none⟩) n cp),(24,i6 ((i:Int)+1))],[],[],z3⟩⟩:=by kernel_rfl
theorem dela_e7:Out.prune [0,6,7,20,21,25] (opStep Tryz.prog 33 (opsOf (getCode (bodyOf Tryz.f73) [1,1,1,1,0])) ⟨[(0,.slice (some ⟨g,0,none⟩) n cp),(6,.slice none 0 0),(7,i6 (n:Int)),(20,.slice (some ⟨g,0,none⟩) n cp),(21,i6 (i:Int)),(23,.slice (some ⟨g,0,none⟩) n cp),(24,i6 ((i:Int)+1))],[],[],z3⟩ 5 oh3)=some ⟨[((0:Int)<=((i:Int)+1)∧((i:Int)+1)<=((n:Nat):Int))∧True],dupR [],⟨[(0,.slice (some ⟨g,0,none⟩) n cp),(6,.slice none 0 0),(7,i6 (n:Int)),(20,.slice (some ⟨g,0,none⟩) n cp),(21,i6 (i:Int)),(25,.slice (some ⟨g,(bif Nat.beq cp (i+1)then 0 else 0+(i+1)*13),none⟩) (n-(i+1)) (cp-(i+1)))],[],[],z3⟩⟩:=by kernel_rfl
theorem dela_t9(W3:World):tailP [0,6,7] (tailX Tryz.prog 33 (opsOf (getCode (bodyOf Tryz.f73) [1,1,1,1,0])) 1 (bA 8 127) ⟨[(26,.slice (some ⟨g,0,none⟩) (n-1) cp),(0,.slice (some ⟨g,0,none⟩) n cp),(6,.slice none 0 0),(7,i6 (n:Int)),(22,.slice (some ⟨g,0,none⟩) i cp),(25,.slice (some ⟨g,(bif Nat.beq cp (i+1)then 0 else 0+(i+1)*13),none⟩) (n-(i+1)) (cp-(i+1)))],[],[],W3.heap.size⟩ [(7,false,oh0)])=some (⟨[],dupR [],⟨[(0,.slice (some ⟨g,0,none⟩) (n-1) cp),(6,.slice none 0 0),(7,i6 (n:Int))],[],[],W3.heap.size⟩⟩,0,(bA 8 255)):=by kernel_rfl
end
theorem delete_any(g n cp i base:Nat)(l:List OneM)(hl:l.length=n)(hi:i<n)(hn:n<=64)(w:World)(hO:OwnR w base 141 13 (some ⟨g,0,none⟩) n cp (onesV l)) :
  Calls Tryz.prog 73 #[.slice (some ⟨g,0,none⟩) n cp,i6 (i:Int),i6 ((i:Int)+1)] w (fun e w'=>e=.returned (.slice (some ⟨g,0,none⟩) (n-1) cp)∧OwnR w' base 141 13 (some ⟨g,0,none⟩) (n-1) cp (onesV (l.eraseIdx i))∧Kept (fun x=>x=g) w w'):=by
 refine cH (S:=(fun _=>False)) (n:=33) Tryz.func73 (MemOk.none w _) ?_
 obtain⟨r,hB,hnc,hcm,hrl⟩:∃r,Blk w g 141 (onesV l++r)∧n<=cp∧cp<=maxLen∧(onesV l++r).length=cp*13:=by
  rcases hO.blk with⟨h,_⟩|⟨g',r,h,_,h2,h3,h4,h5⟩
  ·cases h
  ·cases h
   exact⟨r,h2,h3,h4,h5⟩
 refine hgE 32 (dz 14 33554432) [0,1,2,6,7] [oE (((0:Int)<=(i:Int)∧(i:Int)<=((i:Int)+1)∧((i:Int)+1)<=(n:Int)∧(n:Int)<=((cp:Nat):Int))∧i<n),oE (((i:Int)==((i:Int)+1))=false) (beq_eq_false_iff_ne.2 (by omega))] [] [.code [1,1,1,1,0],.code [1,1,1,1,1]] ⟨[(0,.slice (some ⟨g,0,none⟩) n cp),(1,i6 (i:Int)),(2,i6 ((i:Int)+1)),(6,.slice none 0 0),(7,i6 (n:Int))],[],[],w.heap.size⟩ ?_
 refine holds_anyStart (f:=8) (ls:=dela_n1) (by kernel_rfl) (by kernel_rfl) (by kernel_rfl) (by kernel_rfl) ?_
 refine holds_tail panicOk_body _ _ (dela_t2 g n cp i w) trivial ?_
 suffices HZ3:∀z3:Nat,w.heap.size<=z3->Holds [] Tryz.prog (bodyOf Tryz.f73) 33 w (fun _=>False) (dela_Q g n cp i base l w) [.any [1,1,1,1,0] 2 dela_n3,.code [1,1,1,1,1]] ⟨[(0,.slice (some ⟨g,0,none⟩) n cp),(6,.slice none 0 0),(7,i6 (n:Int)),(22,.slice (some ⟨g,0,none⟩) i cp),(25,.slice (some ⟨g,(bif Nat.beq cp (i+1)then 0 else 0+(i+1)*13),none⟩) (n-(i+1)) (cp-(i+1)))],[],[],z3⟩by
  have A3_0:∀z3:Nat,w.heap.size<=z3->Holds [] Tryz.prog (bodyOf Tryz.f73) 33 w (fun _=>False) (dela_Q g n cp i base l w) [.any [1,1,1,1,0] 2 dela_n3,.code [1,1,1,1,1]] ⟨[(0,.slice (some ⟨g,0,none⟩) n cp),(6,.slice none 0 0),(7,i6 (n:Int)),(22,.slice (some ⟨g,0,none⟩) i cp),(25,.slice (some ⟨g,(bif Nat.beq cp (i+1)then 0 else 0+(i+1)*13),none⟩) (n-(i+1)) (cp-(i+1)))],[],[],z3⟩:=by
   intro z3 hz3
   exact HZ3 z3 hz3
  have A3_1:∀z3:Nat,w.heap.size<=z3->Holds [] Tryz.prog (bodyOf Tryz.f73) 33 w (fun _=>False) (dela_Q g n cp i base l w) [.any [1,1,1,1,0] 3 (bA 8 31),.code [1,1,1,1,1]] ⟨[(0,.slice (some ⟨g,0,none⟩) n cp),(6,.slice none 0 0),(7,i6 (n:Int)),(22,.slice (some ⟨g,0,none⟩) i cp),(23,.slice (some ⟨g,0,none⟩) n cp),(24,i6 ((i:Int)+1))],[],[],z3⟩:=by
   intro z3 hz3
   exact holds_anyAll (l:=[5]) (by kernel_rfl) (by simp) ⟨edge_op (ls':=dela_n3) (by kernel_rfl) (dela_e4 g n cp i z3) ⟨⟨by omega,tI⟩,tI⟩ (A3_0 z3 hz3),tI⟩
  have A3_2:∀z3:Nat,w.heap.size<=z3->Holds [] Tryz.prog (bodyOf Tryz.f73) 33 w (fun _=>False) (dela_Q g n cp i base l w) [.any [1,1,1,1,0] 3 (bA 8 59),.code [1,1,1,1,1]] ⟨[(0,.slice (some ⟨g,0,none⟩) n cp),(6,.slice none 0 0),(7,i6 (n:Int)),(20,.slice (some ⟨g,0,none⟩) n cp),(21,i6 (i:Int)),(25,.slice (some ⟨g,(bif Nat.beq cp (i+1)then 0 else 0+(i+1)*13),none⟩) (n-(i+1)) (cp-(i+1)))],[],[],z3⟩:=by
   intro z3 hz3
   exact holds_anyAll (l:=[2]) (by kernel_rfl) (by simp) ⟨edge_op (ls':=dela_n3) (by kernel_rfl) (dela_e5 g n cp i z3) ⟨⟨by omega,by omega⟩,tI⟩ (A3_0 z3 hz3),tI⟩
  have A3_3:∀z3:Nat,w.heap.size<=z3->Holds [] Tryz.prog (bodyOf Tryz.f73) 33 w (fun _=>False) (dela_Q g n cp i base l w) [.any [1,1,1,1,0] 4 dela_n2,.code [1,1,1,1,1]] ⟨[(0,.slice (some ⟨g,0,none⟩) n cp),(6,.slice none 0 0),(7,i6 (n:Int)),(20,.slice (some ⟨g,0,none⟩) n cp),(21,i6 (i:Int)),(23,.slice (some ⟨g,0,none⟩) n cp),(24,i6 ((i:Int)+1))],[],[],z3⟩:=by
   intro z3 hz3
   exact holds_anyAll (l:=[2,5]) (by kernel_rfl) (by simp) ⟨edge_op (ls':=(bA 8 31)) (by kernel_rfl) (dela_e6 g n cp i z3) ⟨⟨by omega,by omega⟩,tI⟩ (A3_1 z3 hz3),edge_op (ls':=(bA 8 59)) (by kernel_rfl) (dela_e7 g n cp i z3) ⟨⟨by omega,tI⟩,tI⟩ (A3_2 z3 hz3),tI⟩
  exact A3_3 _ (Nat.le_refl _)
 intro z3 hz3
 refine holds_anyV (i:=6) (ls':=(bA 8 127)) (w:=w) (S':=(fun x=>x=g)) (Y:=Unit) (dst:=(some 26)) (x:=Builtin.append_ #[122,122] 122 #[.slice (some ⟨g,0,none⟩) i cp,.slice (some ⟨g,(bif Nat.beq cp (i+1)then 0 else 0+(i+1)*13),none⟩) (n-(i+1)) (cp-(i+1))]) (fun _=>.slice (some ⟨g,0,none⟩) (n-1) cp) [] (fun _ W_=>OwnR W_ base 141 13 (some ⟨g,0,none⟩) (n-1) cp (onesV (l.eraseIdx i))) (fun _=>[(26,.slice (some ⟨g,0,none⟩) (n-1) cp),(0,.slice (some ⟨g,0,none⟩) n cp),(6,.slice none 0 0),(7,i6 (n:Int)),(22,.slice (some ⟨g,0,none⟩) i cp),(25,.slice (some ⟨g,(bif Nat.beq cp (i+1)then 0 else 0+(i+1)*13),none⟩) (n-(i+1)) (cp-(i+1)))]) (by kernel_rfl) (by kernel_rfl) (by kernel_rfl) (by kernel_rfl) (fun _=>rfl) (fun wx hm=>?_) (fun _ W3 hX3 hm3=>?_)
 ·obtain⟨inf,hi1,hi2⟩:=Option.map_eq_some_iff.1 (show(Tryz.prog.info? 141).map (·.size)=some 13 by kernel_rfl)
  have hlt:(onesV (l.take i)).length=i*13:=by rw[onesV_len,List.length_take]; omega
  have hld:(onesV (l.drop (i+1))).length=(n-(i+1))*13:=by rw[onesV_len,List.length_drop,hl]
  have hsp:onesV l=onesV (l.take (i+1))++onesV (l.drop (i+1)):=by rw[onesV_app,List.take_append_drop]
  have hl1:(onesV (l.take (i+1))).length=(i+1)*13:=by rw[onesV_len,List.length_take]; omega
  have hBx:=hB.kept hm.kept (fun h=>h)
  have hOx:OwnR wx base 141 13 (some ⟨g,0,none⟩) i cp (onesV (l.take i)):=by
   have e1:onesV l++r=onesV (l.take i)++(onesV (l.drop i)++r):=by rw[<-List.append_assoc,onesV_app,List.take_append_drop]
   exact ownR_of (hO.own g ⟨_,rfl,rfl⟩).1 (e1▸hBx) (by omega) hcm hlt (by rw[<-e1]; exact hrl)
  obtain⟨w',h1,h2,h3⟩:=run_append_fits (P:=Tryz.prog) (w:=wx) base 122 122 141 inf 13 (by kernel_rfl) hi1 hi2 g i cp (onesV (l.take i)) hOx ⟨g,(bif Nat.beq cp (i+1)then 0 else 0+(i+1)*13),none⟩ (n-(i+1)) (cp-(i+1)) (onesV (l.drop (i+1))) hld (fun j u hj=>by
   have hj2:=(List.getElem?_eq_some_iff.1 hj).1
   have hne:Nat.beq cp (i+1)=false:=by
    cases hb:Nat.beq cp (i+1)with
    |false=>rfl
    |true=>have:=Nat.eq_of_beq_eq_true hb; omega
   rw[hne,add_norm]
   refine(hBx.cell _).trans ?_
   show(onesV l++r)[0+(i+1)*13+j]?=_
   rw[hsp,List.append_assoc,List.getElem?_append_right (by omega),hl1,show 0+(i+1)*13+j-(i+1)*13=j by omega,List.getElem?_append_left hj2]
   exact hj) (onesV_one _) (by omega)
  have e2:i+(n-(i+1))=n-1:=by omega
  rw[e2]at h1 h2
  rw[onesV_app,<-List.eraseIdx_eq_take_drop_succ]at h2
  exact⟨(),w',h1,h2,hm.offA (fun _ h=>h.elim) (Kept.of_grown (S:=(fun x=>x=g)) h3 (fun k _ e=>by cases e; rfl)) (fun x h=>.inl h) (fun b hb=>by cases hb)⟩
 refine holds_tail panicOk_body _ _ (dela_t9 g n cp i W3) trivial ?_
 refine holds_done (by kernel_rfl) ?_
 refine hgE 10 (dz 5 131072) [0,6,31] [oE (((0:Int)<=(((n-1):Nat):Int)∧(((n-1):Nat):Int)<=(n:Int)∧(n:Int)<=((cp:Nat):Int))∧(n-1)<cp)] [] [.ops [1,1,1,1,1,0] [5],.code [1,1,1,1,1,1]] ⟨[(0,.slice (some ⟨g,0,none⟩) (n-1) cp),(6,.slice none 0 0),(31,.slice (some ⟨g,0+(n-1)*13,none⟩) (n-(n-1)) (cp-(n-1)))],[],[],W3.heap.size⟩ ?_
 refine holds_opW (w:=w) (S':=(fun x=>x=g)) (dst:=none) (x:=Builtin.clear_ #[122] 0 #[.slice (some ⟨g,0+(n-1)*13,none⟩) (n-(n-1)) (cp-(n-1))]) (fun _=>.tuple #[]) (fun _ W_=>OwnR W_ base 141 13 (some ⟨g,0,none⟩) (n-1) cp (onesV (l.eraseIdx i))) (fun _=>[(0,.slice (some ⟨g,0,none⟩) (n-1) cp),(6,.slice none 0 0),(31,.slice (some ⟨g,0+(n-1)*13,none⟩) (n-(n-1)) (cp-(n-1)))]) (by kernel_rfl) (by kernel_rfl) (fun _=>rfl) (fun wx hm=>?_) (fun _ W4 hX4 hm4=>?_)
 ·have hO3:=hX3.kept hm.kept (fun _ _ ⟨_,hb,_⟩=>by cases hb)
  obtain⟨r3,hB3,hnc3,hcm3,hrl3⟩:∃r,Blk wx g 141 (onesV (l.eraseIdx i)++r)∧n-1<=cp∧cp<=maxLen∧(onesV (l.eraseIdx i)++r).length=cp*13:=by
   rcases hO3.blk with⟨h,_⟩|⟨g',r,h,_,h2,h3,h4,h5⟩
   ·cases h
   ·cases h
    exact⟨r,h2,h3,h4,h5⟩
  have hle:(onesV (l.eraseIdx i)).length=(n-1)*13:=hO3.len
  obtain⟨ds,w',e1,e2,e3,e4⟩:=run_clearR (P:=Tryz.prog) wx 122 141 0 13 (.agg #[i6 0,i6 0,i6 0,i6 0,i6 0,i6 0,i6 0,i6 0,i6 0,i6 0,sT ⟨#[]⟩,i6 0,i6 0]) g (n-1) (n-(n-1)) (cp-(n-1)) 141 (onesV (l.eraseIdx i)++r3) 112 (by kernel_rfl) (by kernel_rfl) rfl (by decide) rfl hB3 (by omega) (by rw[hrl3]; omega)
  rw[List.take_append_of_le_length (by omega),List.take_of_length_le (by omega)]at e2 e3
  exact⟨0,w',by rw[Nat.zero_add]; exact e1,ownR_of (hO.own g ⟨_,rfl,rfl⟩).1 e2 (by omega) hcm hle (by rw[e3,hrl3]),MemOk.offA (MemOk.bck hm3 hm) (fun _ h=>h) e4 (fun _ h=>.inl h) (fun b hb=>by cases hb)⟩
 refine hgS 9 (dz 2 0) [6] [] [] [.code [1,1,1,1,1,1,1]] [] [] W4.heap.size ?_
 refine hrt [] [.slice (some ⟨g,0,none⟩) (n-1) cp] [] ?_
 intro wx hm
 exact⟨rfl,hX4.kept hm.kept (fun _ _ ⟨_,hb,_⟩=>by cases hb),(MemOk.bck hm4 hm).kept⟩
end Go.Proofs.YtcmpkkapkdlfhaaGreat
