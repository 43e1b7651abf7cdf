import Derived.Test.YtcmpkkapkdlfhaaGreatLib17
namespace Go.Proofs.YtcmpkkapkdlfhaaGreat
open Go.RowKit
structure LeaC where
  has:Bool
  (ep ou sq sc:Int)
def LeaC.cells (l:LeaC):List Value:=[.bool l.has,.int .i64 l.ep,.int .i64 l.ou,.int .i64 l.sq,.int .i64 l.sc]
def lea0:LeaC:=⟨false,0,0,0,0⟩
structure PilC where
  lb:Nat
  (N S:Int)
  cb:Nat
  lv:Nat → LeaC
  busy:Bool
  (kd at_:Int)
  da:ByteArray
  (sn cn:Int)
  nx:Value
  lg:Bool
  (en ep ou:Int)
  db:Bool
  (te ts:Int)
  (kn rc:Value)
  stl:Bool
  (rd wr:Value)
  bl:Nat → ByteArray
  (ud ak:Value)
  er:Int
  dt:ByteArray
  ed:Int
def PilC.cells (x:PilC):List Value:=
  [.int .i64 x.N,.int .i64 x.S,.pointer (some ⟨x.cb,0,none⟩),
   .bool (x.lv 0).has,.int .i64 (x.lv 0).ep,.int .i64 (x.lv 0).ou,.int .i64 (x.lv 0).sq,.int .i64 (x.lv 0).sc,
   .bool (x.lv 1).has,.int .i64 (x.lv 1).ep,.int .i64 (x.lv 1).ou,.int .i64 (x.lv 1).sq,.int .i64 (x.lv 1).sc,
   .bool (x.lv 2).has,.int .i64 (x.lv 2).ep,.int .i64 (x.lv 2).ou,.int .i64 (x.lv 2).sq,.int .i64 (x.lv 2).sc,
   .bool (x.lv 3).has,.int .i64 (x.lv 3).ep,.int .i64 (x.lv 3).ou,.int .i64 (x.lv 3).sq,.int .i64 (x.lv 3).sc,
   .bool (x.lv 4).has,.int .i64 (x.lv 4).ep,.int .i64 (x.lv 4).ou,.int .i64 (x.lv 4).sq,.int .i64 (x.lv 4).sc,
   .bool (x.lv 5).has,.int .i64 (x.lv 5).ep,.int .i64 (x.lv 5).ou,.int .i64 (x.lv 5).sq,.int .i64 (x.lv 5).sc,
   .bool (x.lv 6).has,.int .i64 (x.lv 6).ep,.int .i64 (x.lv 6).ou,.int .i64 (x.lv 6).sq,.int .i64 (x.lv 6).sc,
   .bool (x.lv 7).has,.int .i64 (x.lv 7).ep,.int .i64 (x.lv 7).ou,.int .i64 (x.lv 7).sq,.int .i64 (x.lv 7).sc,
   .bool x.busy,.int .i64 x.kd,.int .i64 x.at_,.string x.da,.int .i64 x.sn,.int .i64 x.cn,x.nx,.bool x.lg,.int .i64 x.en,.int .i64 x.ep,.int .i64 x.ou,.bool x.db,.int .i64 x.te,.int .i64 x.ts,
   x.kn,x.rc,.bool x.stl,x.rd,x.wr,.string (x.bl 0),.string (x.bl 1),.string (x.bl 2),.string (x.bl 3),.string (x.bl 4),.string (x.bl 5),x.ud,x.ak,.int .i64 x.er,.string x.dt,.int .i64 x.ed]
def PilC.setL (x:PilC) (i:Nat) (l:LeaC):PilC:={ x with lv:=fun j=>if j = i then l else x.lv j }
def PilC.setB (x:PilC) (i:Nat) (s:ByteArray):PilC:={ x with bl:=fun j=>if j = i then s else x.bl j }
theorem pil_lease (x:PilC) {i:Nat} (hi:i < 8) {j:Nat} {v:Value} (h:(x.lv i).cells[j]? = some v):x.cells[3 + i * 5 + j]? = some v:=by
  have hj:j < 5:=(List.getElem?_eq_some_iff.1 h).1
  match i,hi,j,hj,h with
  | 0,_,0,_,h | 0,_,1,_,h | 0,_,2,_,h | 0,_,3,_,h | 0,_,4,_,h=>exact h
  | 1,_,0,_,h | 1,_,1,_,h | 1,_,2,_,h | 1,_,3,_,h | 1,_,4,_,h=>exact h
  | 2,_,0,_,h | 2,_,1,_,h | 2,_,2,_,h | 2,_,3,_,h | 2,_,4,_,h=>exact h
  | 3,_,0,_,h | 3,_,1,_,h | 3,_,2,_,h | 3,_,3,_,h | 3,_,4,_,h=>exact h
  | 4,_,0,_,h | 4,_,1,_,h | 4,_,2,_,h | 4,_,3,_,h | 4,_,4,_,h=>exact h
  | 5,_,0,_,h | 5,_,1,_,h | 5,_,2,_,h | 5,_,3,_,h | 5,_,4,_,h=>exact h
  | 6,_,0,_,h | 6,_,1,_,h | 6,_,2,_,h | 6,_,3,_,h | 6,_,4,_,h=>exact h
  | 7,_,0,_,h | 7,_,1,_,h | 7,_,2,_,h | 7,_,3,_,h | 7,_,4,_,h=>exact h
theorem pil_setL (x:PilC) {i:Nat} (hi:i < 8) (l:LeaC):x.cells.take (3 + i * 5) ++ l.cells ++ x.cells.drop (3 + i * 5 + 5) = (x.setL i l).cells:=by
  match i,hi with
  | 0,_ | 1,_ | 2,_ | 3,_ | 4,_ | 5,_ | 6,_ | 7,_=>rfl
theorem pil_setSq (x:PilC) {i:Nat} (hi:i < 8) (n:Int):x.cells.take (3 + i * 5 + 3) ++ [.int .i64 n] ++ x.cells.drop (3 + i * 5 + 3 + 1) = ({ x with lv:=fun j=>if j = i then { x.lv i with sq:=n } else x.lv j }:PilC).cells:=by
  match i,hi with
  | 0,_ | 1,_ | 2,_ | 3,_ | 4,_ | 5,_ | 6,_ | 7,_=>rfl
theorem pil_block (x:PilC) {i:Nat} (hi:i < 6):x.cells[62 + i]? = some (.string (x.bl i)):=by
  match i,hi with
  | 0,_ | 1,_ | 2,_ | 3,_ | 4,_ | 5,_=>rfl
theorem pil_setB (x:PilC) {i:Nat} (hi:i < 6) (s:ByteArray):x.cells.take (62 + i) ++ [.string s] ++ x.cells.drop (62 + i + 1) = (x.setB i s).cells:=by
  match i,hi with
  | 0,_ | 1,_ | 2,_ | 3,_ | 4,_ | 5,_=>rfl
theorem run_newOwn {P:Program} (w:World) (t e:TypeId) (zv:Value) (z n b:Nat) (cs:List Value) (ht:P.underlying t = some (.slice e)) (hi:(P.info? e).map (fun i=>(i.zero,i.size,i.bytes)) = some (some zv,z,b)) (hc:(madeCells zv.cells (n * z)).toList = cs) (hl:cs.length = n * z) (hb:b ≤ 1000) (hn:n ≤ 1000) :
    ∃ w',(Instr.makeSlice t (.int .i64 (n:Int)) (.int .i64 (n:Int))).run P w = .ok (.slice (some ⟨w.heap.size,0,none⟩) n n) w' ∧ OwnR w' w.heap.size e z (some ⟨w.heap.size,0,none⟩) n n cs ∧ Kept (fun _=>False) w w':=by
  obtain ⟨inf,hi1,hi2⟩:=Option.map_eq_some_iff.1 hi
  simp only [Prod.mk.injEq] at hi2
  obtain ⟨hz,hs,hby⟩:=hi2
  have hbn:b * n ≤ 1000 * 1000:=Nat.mul_le_mul hb hn
  have h1:=run_make (P:=P) w t e inf zv ht hi1 hz .i64 .i64 (n:Int) (n:Int) (by omega) (Int.le_refl _) (by rw [hby]; have h5:((b * n:Nat):Int) ≤ ((1000 * 1000:Nat):Int):=Int.ofNat_le.2 hbn; rw [Int.natCast_mul] at h5; omega) (by omega)
  simp only [Int.toNat_natCast,hs] at h1
  refine ⟨_,h1,?_,(Kept.refl _ w).alloc _⟩
  have h2:=Blk.new w e (madeCells zv.cells (n * z)).toList
  rw [Array.toArray_toList,hc] at h2
  exact ownR_of (r:=[]) (Nat.le_refl _) (by rw [List.append_nil]; exact h2) (Nat.le_refl _) (by simp only [maxLen]; omega) hl (by rw [List.append_nil]; exact hl)
theorem store_to {P:Program} {w:World} {t:TypeId} {g o n:Nat} {tt:TypeId} {cs cs':List Value} {v:Value} (hs:(P.info? t).map (·.size) = some n) (hB:Blk w g tt cs) (hn:v.cells.size = n) (hle:o + n ≤ cs.length) (hone:∀ u ∈ v.cells.toList,u.oneCell' = true) (he:cs.take o ++ v.cells.toList ++ cs.drop (o + n) = cs') :
    ∃ w',(Instr.storeAt t (.pointer (some ⟨g,o,none⟩)) v).run P w = .ok () w' ∧ Blk w' g tt cs' ∧ Kept (fun x=>x = g) w w' ∧ w'.heap.size = w.heap.size:=by
  subst he hn
  exact ⟨_,run_storeG w t g o tt cs v hs hB hle hone,setRow_blk hB _,setRow_kept w g _,setRow_size _ _ _⟩
theorem own_blk {w:World} {base g:Nat} {e:TypeId} {z:Nat} {cs:List Value} (h:OwnR w base e z (some ⟨g,0,none⟩) 1 1 cs):Blk w g e cs:=by
  have hl:=h.len
  rcases h.blk with ⟨h0,_⟩ | ⟨g',r,h0,hb,hB,hn,hc,hz⟩
  · cases h0
  · cases h0
    have:r = []:=by
      rw [List.length_append] at hz
      exact List.length_eq_zero_iff.1 (by omega)
    subst this
    simpa using hB
theorem blk_own {w:World} {base g:Nat} {e:TypeId} {z:Nat} {cs:List Value} (hb:base ≤ g) (h:Blk w g e cs) (hl:cs.length = z):OwnR w base e z (some ⟨g,0,none⟩) 1 1 cs:=
  ownR_of (r:=[]) hb (by rw [List.append_nil]; exact h) (Nat.le_refl _) (by simp only [maxLen]; omega) (by omega) (by rw [List.append_nil]; omega)
theorem ownS_some {g:Nat}:∀ y,ownS (some ⟨g,0,none⟩) y → y = g:=fun _ ⟨_,h,e⟩=>by cases h; exact e
def updC (st mk e s:Int) (P:Value) (bg:Bool):List Value:=[.int .i64 st,.int .i64 mk,.int .i64 e,.int .i64 s,P,.bool bg,.bool false]
def boolC (b:Bool):List Value:=[.bool b]
theorem own_cell {w:World} {base g:Nat} {e:TypeId} {z n cp:Nat} {cs:List Value} (h:OwnR w base e z (some ⟨g,0,none⟩) n cp cs) {j:Nat} {v:Value} (hj:cs[j]? = some v):w.cell? ⟨g,j,none⟩ = some v:=by
  obtain ⟨g',h3,_,_,h4⟩:=h.cell hj
  cases h3
  exact h4
theorem flat_bools (b:Bool):∀ n:Nat,flatV boolC (List.replicate n b) = List.replicate n (.bool b)
  | 0=>rfl
  | n + 1=>by
    rw [List.replicate_succ,List.replicate_succ,← flat_bools b n]
    rfl
def recZ:RecM:=⟨false,0,0,0,⟨#[]⟩,false,0,0,0,⟨#[]⟩⟩
theorem made_bools3:(madeCells (Value.bool false).cells (3 * 1)).toList = flatV boolC (List.replicate 3 false):=by kernel_rfl
theorem made_bools4:(madeCells (Value.bool false).cells (4 * 1)).toList = flatV boolC (List.replicate 4 false):=by kernel_rfl
theorem made_bools5:(madeCells (Value.bool false).cells (5 * 1)).toList = flatV boolC (List.replicate 5 false):=by kernel_rfl
theorem made_bools6:(madeCells (Value.bool false).cells (6 * 1)).toList = flatV boolC (List.replicate 6 false):=by kernel_rfl
theorem made_bools {n:Nat} (h3:3 ≤ n) (h:n ≤ 6):(madeCells (Value.bool false).cells (n * 1)).toList = flatV boolC (List.replicate n false):=by
  match n,h3,h with
  | 3,_,_=>exact made_bools3
  | 4,_,_=>exact made_bools4
  | 5,_,_=>exact made_bools5
  | 6,_,_=>exact made_bools6
theorem made_recs3:(madeCells (Value.agg #[.bool false,.int .i64 0,.int .i64 0,.int .i64 0,.string ⟨#[]⟩,.bool false,.int .i64 0,.int .i64 0,.int .i64 0,.string ⟨#[]⟩]).cells (3 * 10)).toList = flatV RecM.cells (List.replicate 3 recZ):=by kernel_rfl
theorem made_recs4:(madeCells (Value.agg #[.bool false,.int .i64 0,.int .i64 0,.int .i64 0,.string ⟨#[]⟩,.bool false,.int .i64 0,.int .i64 0,.int .i64 0,.string ⟨#[]⟩]).cells (4 * 10)).toList = flatV RecM.cells (List.replicate 4 recZ):=by kernel_rfl
theorem made_recs5:(madeCells (Value.agg #[.bool false,.int .i64 0,.int .i64 0,.int .i64 0,.string ⟨#[]⟩,.bool false,.int .i64 0,.int .i64 0,.int .i64 0,.string ⟨#[]⟩]).cells (5 * 10)).toList = flatV RecM.cells (List.replicate 5 recZ):=by kernel_rfl
theorem made_recs6:(madeCells (Value.agg #[.bool false,.int .i64 0,.int .i64 0,.int .i64 0,.string ⟨#[]⟩,.bool false,.int .i64 0,.int .i64 0,.int .i64 0,.string ⟨#[]⟩]).cells (6 * 10)).toList = flatV RecM.cells (List.replicate 6 recZ):=by kernel_rfl
theorem made_recs {n:Nat} (h3:3 ≤ n) (h:n ≤ 6):(madeCells (Value.agg #[.bool false,.int .i64 0,.int .i64 0,.int .i64 0,.string ⟨#[]⟩,.bool false,.int .i64 0,.int .i64 0,.int .i64 0,.string ⟨#[]⟩]).cells (n * 10)).toList = flatV RecM.cells (List.replicate n recZ):=by
  match n,h3,h with
  | 3,_,_=>exact made_recs3
  | 4,_,_=>exact made_recs4
  | 5,_,_=>exact made_recs5
  | 6,_,_=>exact made_recs6
theorem flatV_rep {α:Type} {f:α → List Value} {n z:Nat} {a:α} (h:(f a).length = z):(flatV f (List.replicate n a)).length = n * z:=by
  simp [flatV,h]
def fenceQ (sn e:Int):AskM:=⟨1,sn,e,0,0,0,0,0,⟨#[]⟩⟩
def onesF (t sn e last:Int) (i:Nat):List OneM:=(List.range i).map fun k:Nat=>⟨(k:Int),last + 1 + (k:Int),fenceQ sn e,t,t⟩
theorem onesF_len (t sn e last:Int) (i:Nat):(onesF t sn e last i).length = i:=by simp [onesF]
theorem onesF_succ (t sn e last:Int) (i:Nat):onesF t sn e last (i + 1) = onesF t sn e last i ++ [⟨(i:Int),last + 1 + (i:Int),fenceQ sn e,t,t⟩]:=by simp [onesF,List.range_succ]
def onesA (t:Int):Int → List (Int × AskM) → List OneM
  | _,[]=>[]
  | last,(p,q) :: r=>⟨p,last + 1,q,t,t⟩ :: onesA t (last + 1) r
theorem onesA_snoc (t:Int):∀ (P:List (Int × AskM)) (last p:Int) (q:AskM),onesA t last (P ++ [(p,q)]) = onesA t last P ++ [⟨p,last + (P.length:Int) + 1,q,t,t⟩]
  | [],last,p,q=>by simp [onesA]
  | (p',q') :: r,last,p,q=>by
    simp only [List.cons_append,onesA,onesA_snoc t r,List.length_cons]
    congr 4
    omega
theorem onesA_len (t:Int):∀ (P:List (Int × AskM)) (last:Int),(onesA t last P).length = P.length
  | [],_=>rfl
  | (_,_) :: r,last=>by simp [onesA,onesA_len t r]
def cmA (c:CM) (t:Int) (P:List (Int × AskM)):CM:=⟨c.frm,c.last + (P.length:Int),onesA t c.last P⟩
theorem cmA_nil (c:CM) (t:Int):{ c with opn:=[] } = cmA c t []:=by simp [cmA,onesA]
theorem cmA_snoc {now:Int} (c:CM) (P:List (Int × AskM)) (p:Int) (q:AskM) (h:0 ≤ now ∧ now ≤ 1099511627776):askC (cmA c now P) now p q = cmA c now (P ++ [(p,q)]):=by
  rw [cmA,ask_M (within_id h),cmA,onesA_snoc]
  simp only [CM.mk.injEq,List.length_append,List.length_singleton,and_true,true_and]
  omega
theorem onesA_ask {now:Int} (c:CM) (P:List (Int × AskM)) (p:Int) (q:AskM) (L:List OneM) (h:0 ≤ now ∧ now ≤ 1099511627776):(L ++ onesA now c.last P) ++ [⟨p,(cmA c now P).last + 1,q,within14 now,within14 now⟩] = L ++ onesA now c.last (P ++ [(p,q)]):=by
  rw [onesA_snoc,within_id h,List.append_assoc,cmA]
def phaseQ (k sn e:Int):AskM:=⟨k,sn,e,0,0,0,0,0,⟨#[]⟩⟩
def colsP (k N sn e:Int) (R:List Int):List (Int × AskM):=R.map fun c=>((c + sn) % N,phaseQ k sn e)
theorem colsP_take {k N sn e:Int} {R:List Int} {i:Nat} {x:Int} (h:R[i]? = some x):colsP k N sn e (R.take (i + 1)) = colsP k N sn e (R.take i) ++ [((x + sn) % N,phaseQ k sn e)]:=by
  rw [List.take_add_one,h]; simp [colsP]
theorem colsP_len (k N sn e:Int) (R:List Int):(colsP k N sn e R).length = R.length:=by simp [colsP]
def lvS (f:Nat → LeaC) (i:Nat) (l:LeaC):Nat → LeaC:=fun j=>if j = i then l else f j
def blS (f:Nat → ByteArray) (i:Nat) (s:ByteArray):Nat → ByteArray:=fun j=>if j = i then s else f j
theorem run_box {P:Program} (w:World) (t:TypeId) (v:Value):∃ w',(Instr.box t v).run P w = .ok (.pointer (some ⟨w.heap.size,0,none⟩)) w' ∧ Blk w' w.heap.size t v.cells.toList ∧ Kept (fun _=>False) w w' ∧ w.heap.size ≤ w'.heap.size:=
  ⟨w.alloc (.cells v.cells t),rfl,by have h:=Blk.new w t v.cells.toList; rwa [Array.toArray_toList] at h,(Kept.refl _ w).alloc _,by simp⟩
def strB (P:Program) (t:TypeId):Bool:=match P.underlying t with | some (.struct _)=>true | _=>false
theorem run_loadS {P:Program} (w:World) (t:TypeId) (g o:Nat) (tt:TypeId) (cs vs:List Value) (ha:strB P t = true) (hs:(P.info? t).map (·.size) = some vs.length) (hB:Blk w g tt cs) (hv:∀ j v,vs[j]? = some v → cs[o + j]? = some v) :
    (Instr.loadAt t (.pointer (some ⟨g,o,none⟩))).run P w = .ok (.agg vs.toArray) w:=by
  obtain ⟨inf,hi,hz⟩:=Option.map_eq_some_iff.1 hs
  have h1:=run_loadCells_list (P:=P) (w:=w) ⟨g,o,none⟩ vs (fun j v hj=>by
    rw [add_norm]
    exact (hB.cell _).trans (hv j v hj))
  have h2:(isAgg t).run P w = .ok true w:=by
    unfold strB at ha
    split at ha
    · rename_i hu
      simp [isAgg,run_underlying hu]
    · cases ha
  simp [Instr.loadAt,Instr.sureAddr,loadVar,h2,sizeOf,typeInfo,hi,hz,h1]
def onB (P:Program) (t:TypeId):Bool:=match P.underlying t with | some (.struct _)=>false | some (.array _ _)=>false | some _=>true | none=>false
theorem run_load1 {P:Program} {w:World} {t:TypeId} {g o:Nat} {v:Value} (ha:onB P t = true) (h:w.cell? ⟨g,o,none⟩ = some v):(Instr.loadAt t (.pointer (some ⟨g,o,none⟩))).run P w = .ok v w:=by
  have h2:(isAgg t).run P w = .ok false w:=by
    unfold onB at ha
    split at ha
    · cases ha
    · cases ha
    · rename_i d h1 h2 hu
      simp only [isAgg,Sem.run_bind,run_underlying hu,Result.andThen_ok]
      rfl
    · cases ha
  simp [Instr.loadAt,Instr.sureAddr,loadVar,h2,h]
theorem run_loadSC {P:Program} {w:World} {t:TypeId} {g o:Nat} {vs:List Value} (ha:strB P t = true) (hs:(P.info? t).map (·.size) = some vs.length) (hv:∀ j v,vs[j]? = some v → w.cell? ⟨g,o + j,none⟩ = some v) :
    (Instr.loadAt t (.pointer (some ⟨g,o,none⟩))).run P w = .ok (.agg vs.toArray) w:=by
  obtain ⟨inf,hi,hz⟩:=Option.map_eq_some_iff.1 hs
  have h1:=run_loadCells_list (P:=P) (w:=w) ⟨g,o,none⟩ vs (fun j v hj=>by
    rw [add_norm]
    exact hv j v hj)
  have h2:(isAgg t).run P w = .ok true w:=by
    unfold strB at ha
    split at ha
    · rename_i hu
      simp [isAgg,run_underlying hu]
    · cases ha
  simp [Instr.loadAt,Instr.sureAddr,loadVar,h2,sizeOf,typeInfo,hi,hz,h1]
theorem lvS_self (f:Nat → LeaC) (i:Nat) (l:LeaC):lvS f i l i = l:=by simp [lvS]
structure PartM where
 col:Int
 blk:ByteArray
 (opn don:Bool)
def PartM.cells (p:PartM):List Value:=[.int .i64 p.col,.string p.blk,.bool p.opn,.bool p.don]
theorem part_len (p:PartM):p.cells.length = 4:=rfl
def stateL:List PartM → Int → Int
 | [],s=>s
 | p :: l,s=>bif p.opn then stateL l (bif p.don then s else 1) else 0
theorem stateL_drop {L:List PartM} {i:Nat} {p:PartM} (h:L[i]? = some p) (s:Int):stateL (L.drop i) s = bif p.opn then stateL (L.drop (i + 1)) (bif p.don then s else 1) else 0:=by
 have hi:=(List.getElem?_eq_some_iff.1 h).1
 have:L.drop i = p :: L.drop (i + 1):=by
  rw [List.drop_eq_getElem_cons hi,(List.getElem?_eq_some_iff.1 h).2]
 rw [this]
 rfl
theorem stateL_end {L:List PartM} {i:Nat} (h:L.length ≤ i) (s:Int):stateL (L.drop i) s = s:=by
 rw [List.drop_of_length_le h]
 rfl
def openP (c:Int) (p:PartM):PartM:=if p.col = c then { p with opn:=true } else p
def doneP (c:Int) (p:PartM):PartM:=if p.col = c then { p with don:=true } else p
def upTo (F:PartM → PartM) (i:Nat) (L:List PartM):List PartM:=(L.take i).map F ++ L.drop i
theorem upTo_zero (F:PartM → PartM) (L:List PartM):upTo F 0 L = L:=by simp [upTo]
theorem upTo_all {F:PartM → PartM} {L:List PartM} {i:Nat} (h:L.length ≤ i):upTo F i L = L.map F:=by
 rw [upTo,List.take_of_length_le h,List.drop_of_length_le h,List.append_nil]
theorem upTo_get {F:PartM → PartM} {L:List PartM} {i:Nat} {p:PartM} (h:L[i]? = some p):(upTo F i L)[i]? = some p:=by
 have hi:=(List.getElem?_eq_some_iff.1 h).1
 have h1:((L.take i).map F).length = i:=by simp; omega
 rw [upTo,List.getElem?_append_right (by omega),h1,Nat.sub_self,List.getElem?_drop,Nat.add_zero,h]
theorem upTo_set {F:PartM → PartM} {L:List PartM} {i:Nat} {p:PartM} (h:L[i]? = some p):(upTo F i L).set i (F p) = upTo F (i + 1) L:=by
 have hi:=(List.getElem?_eq_some_iff.1 h).1
 have h1:((L.take i).map F).length = i:=by simp; omega
 unfold upTo
 rw [List.set_append_right _ _ (by omega),h1,Nat.sub_self,List.drop_eq_getElem_cons hi,List.set_cons_zero,List.take_add_one,h]
 simp
theorem upTo_same {F:PartM → PartM} {L:List PartM} {i:Nat} {p:PartM} (h:L[i]? = some p) (hp:F p = p):upTo F (i + 1) L = upTo F i L:=by
 rw [← upTo_set h,hp,set_sameG (upTo_get h)]
def prepQ (st e s mask:Int) (p:PartM):AskM:=⟨4,st,e,s,mask,0,0,0,p.blk⟩
def commQ (st e s:Int) (_:PartM):AskM:=⟨5,st,e,s,0,0,0,0,⟨#[]⟩⟩
def colC (p:PartM):List Value:=[.int .i64 p.col]
def prepC (st e s mask:Int) (p:PartM):List Value:=(prepQ st e s mask p).cells
def commC (st e s:Int) (p:PartM):List Value:=(commQ st e s p).cells
theorem state_prep {L:List PartM} (hn:0 < L.length) (h:∀ q ∈ L,q.opn = false):stateL L 2 = 0:=by
 cases L with
 | nil=>simp at hn
 | cons p l=>simp [stateL,h p (by simp)]
theorem state_comm {L:List PartM} (hn:0 < L.length) (h:∀ q ∈ L,q.opn = true ∧ q.don = false):stateL L 2 = 1:=by
 have H:∀ (l:List PartM),(∀ q ∈ l,q.opn = true ∧ q.don = false) → stateL l 1 = 1:=by
  intro l
  induction l with
  | nil=>intro _; rfl
  | cons p l ih=>
   intro h
   have h1:=h p (by simp)
   simp [stateL,h1.1,h1.2,ih (fun q hq=>h q (by simp [hq]))]
 cases L with
 | nil=>simp at hn
 | cons p l=>
  have h1:=h p (by simp)
  simp [stateL,h1.1,h1.2,H l (fun q hq=>h q (by simp [hq]))]
def mskC (C:List Int):Int:=C.foldl (fun m c=>orZ m (1 * ((2 ^ Int.toNat c:Nat):Int))) 0
theorem mskC_snoc (C:List Int) (c:Int):mskC (C ++ [c]) = orZ (mskC C) (1 * ((2 ^ Int.toNat c:Nat):Int)):=by simp [mskC]
theorem pow_bd {c:Int} (h:0 ≤ c ∧ c < 6):1 ≤ ((2 ^ Int.toNat c:Nat):Int) ∧ ((2 ^ Int.toNat c:Nat):Int) ≤ 32:=by
 obtain ⟨k,rfl⟩:∃ k:Nat,c = (k:Int):=⟨c.toNat,by omega⟩
 have hk:k < 6:=by omega
 rw [Int.toNat_natCast]
 match k,hk with
 | 0,_=>decide
 | 1,_=>decide
 | 2,_=>decide
 | 3,_=>decide
 | 4,_=>decide
 | 5,_=>decide
theorem orZ_bd {a b:Int} (ha:0 ≤ a ∧ a ≤ 63) (hb:0 ≤ b ∧ b ≤ 63):0 ≤ orZ a b ∧ orZ a b ≤ 63:=by
 have h:=Nat.or_lt_two_pow (x:=a.toNat) (y:=b.toNat) (n:=6) (by omega) (by omega)
 unfold orZ
 omega
theorem mskC_bd:∀ (C:List Int),(∀ c ∈ C,0 ≤ c ∧ c < 6) → 0 ≤ mskC C ∧ mskC C ≤ 63:=by
 intro C
 suffices H:∀ (C:List Int) (m:Int),0 ≤ m ∧ m ≤ 63 → (∀ c ∈ C,0 ≤ c ∧ c < 6) → 0 ≤ C.foldl (fun m c=>orZ m (1 * ((2 ^ Int.toNat c:Nat):Int))) m ∧ C.foldl (fun m c=>orZ m (1 * ((2 ^ Int.toNat c:Nat):Int))) m ≤ 63 from H C 0 (by omega)
 intro C
 induction C with
 | nil=>intro m hm _; exact hm
 | cons c C ih=>
  intro m hm hC
  have h1:=pow_bd (hC c (by simp))
  exact ih _ (orZ_bd hm (by omega)) (fun d hd=>hC d (by simp [hd]))
def partsL (C:List Int) (B:List ByteArray):List PartM:=List.zipWith (fun c b=>⟨c,b,false,false⟩) C B
theorem partsL_len {C:List Int} {B:List ByteArray} {n:Nat} (hC:C.length = n) (hB:B.length = n):(partsL C B).length = n:=by simp [partsL,hC,hB]
theorem partsL_take {C:List Int} {B:List ByteArray} {i:Nat} {c:Int} {b:ByteArray} (hC:C[i]? = some c) (hB:B[i]? = some b):(partsL C B).take (i + 1) = (partsL C B).take i ++ [⟨c,b,false,false⟩]:=by
 have:(partsL C B)[i]? = some ⟨c,b,false,false⟩:=by
  rw [partsL,List.getElem?_zipWith,hC,hB]
 rw [List.take_add_one,this]
 rfl
theorem take_snocG {α:Type} {L:List α} {i:Nat} {x:α} (h:L[i]? = some x):L.take (i + 1) = L.take i ++ [x]:=by rw [List.take_add_one,h]; rfl
theorem run_min3 {P:Program} (w:World) (ts:Array TypeId) (t:TypeId) (x y z:Int):(Builtin.min_ ts t #[.int .i64 x,.int .i64 y,.int .i64 z]).run P w = .ok (.int .i64 (minZ (minZ x y) z)) w:=by
 simp [Builtin.min_,Builtin.min2,minZ]
 rfl
theorem and63 {i:Nat} (h:i < 6):andZ (63 / ((2 ^ Int.toNat (i:Int):Nat):Int)) 1 = 1:=by
 rw [Int.toNat_natCast]
 match i,h with
 | 0,_=>decide
 | 1,_=>decide
 | 2,_=>decide
 | 3,_=>decide
 | 4,_=>decide
 | 5,_=>decide
def natC (k:Nat):List Value:=[.int .i64 (k:Int)]
theorem range_take {n i:Nat} (h:i < n):(List.range n).take (i + 1) = (List.range n).take i ++ [i]:=take_snocG (by simp [h])
theorem rep_cell {w:World} {g n i:Nat} (hc:∀ (j:Nat) (v:Value),(List.replicate n (Value.bool true))[j]? = some v → w.cell? ⟨g,0 + j,none⟩ = some v) (hi:i < n):∀ (j:Nat) (v:Value),[Value.bool true][j]? = some v → w.cell? ⟨g,0 + i * 1 + j,none⟩ = some v:=by
 rw [← List.map_replicate (f:=Value.bool)] at hc
 exact map_cell (f:=Value.bool) hc (List.getElem?_replicate_of_lt hi)
theorem rec_len (r:RecM):r.cells.length = 10:=rfl
theorem flat_cell {α:Type} {f:α → List Value} {w:World} {g z:Nat} {L:List α} (hf:∀ x,(f x).length = z) (hc:∀ (j:Nat) (v:Value),(flatV f L)[j]? = some v → w.cell? ⟨g,0 + j,none⟩ = some v) {i:Nat} {x:α} (hx:L[i]? = some x):∀ (j:Nat) (v:Value),(f x)[j]? = some v → w.cell? ⟨g,0 + i * z + j,none⟩ = some v:=by
 intro j v hj
 have hjz:j < z:=by rw [← hf x]; exact (List.getElem?_eq_some_iff.1 hj).1
 rw [Nat.add_assoc]
 exact hc _ _ ((flatV_get hf hx hjz).trans hj)
end Go.Proofs.YtcmpkkapkdlfhaaGreat
