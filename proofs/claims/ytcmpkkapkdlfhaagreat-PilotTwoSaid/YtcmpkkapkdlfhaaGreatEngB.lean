import Derived.Test.YtcmpkkapkdlfhaaGreatEngA
import Derived.WalkKit
import Derived.WalkSpells
import Derived.Laws.Strings2
import Derived.Laws.Strings3
import Derived.Laws.Small
import Derived.Laws.Slices
namespace Go.Proofs.YtcmpkkapkdlfhaaGreat
open Go.RowKit
def getS:List (Nat×Value)->Nat->Option Value
 |[],_=>none
 |(j,v)::r,i=>match Nat.beq j i with
  |true=>some v
  |false=>getS r i
structure FrOk(D:List Deferred)(n:Nat)(sl:List (Nat×Value))(a:Act):Prop where
 size:a.tmps.size=n
 df:a.defers=D
 val:∀i v,getS sl i=some v->a.tmps[i]?=some v
def opd(sl:List (Nat×Value)):Operand->Option Value
 |.tmp t=>getS sl t
 |.const v=>some v
 |.global g=>some (.pointer (some ⟨g,0,none⟩))
 |.func f=>some (.func (.func f) #[] #[])
def rho(sl:List (Nat×Value))(x:Operand):Value:=(opd sl x).getD undef
def known(sl:List (Nat×Value))(o:Oper):Bool:=
 o.op.operands.toList.all (fun x=>(opd sl x).isSome)&&match o.op with|.select ..=>false|.defer _=>false|_=>true
section
variable {D:List Deferred}{n:Nat}{sl:List (Nat×Value)}{a:Act}
theorem FrOk.eval(h:FrOk D n sl a){x:Operand}{v:Value}(hx:opd sl x=some v):a.eval x=v:=by
 cases x with
 |tmp t=>
  have:=h.val t v hx
  simp[Act.eval,this]
 |const u=>simpa[opd,Act.eval]using hx
 |global g=>simpa[opd,Act.eval]using hx
 |func f=>simpa[opd,Act.eval]using hx
theorem FrOk.rho(h:FrOk D n sl a){o:Oper}(hk:known sl o=true):execOp a.eval o=execOp (rho sl) o:=by
 simp only[known,Bool.and_eq_true,List.all_eq_true]at hk
 refine execOp_congr o (fun cs b he=>?_) fun x hx=>?_
 ·have:=hk.2
  simp[he]at this
 ·obtain⟨v,hv⟩:=Option.isSome_iff_exists.1 (hk.1 x (by simpa using hx))
  rw[h.eval hv,Go.Proofs.YtcmpkkapkdlfhaaGreat.rho,hv]
  rfl
theorem known_noDefer{o:Oper}(hk:known sl o=true)(c:Call):o.op≠.defer c:=by
 intro he
 simp only[known,Bool.and_eq_true]at hk
 have:=hk.2
 simp[he]at this
def putS(n:Nat)(sl:List (Nat×Value))(d:Option Nat)(v:Value):Option (List (Nat×Value)):=
 match d with
 |none=>some sl
 |some d=>match Nat.blt d n with
  |true=>some ((d,v)::sl)
  |false=>none
theorem FrOk.put(h:FrOk D n sl a){d:Option Nat}{v:Value}{sl':List (Nat×Value)}(hp:putS n sl d v=some sl'):FrOk D n sl' (a.put d v):=by
 cases d with
 |none=>simp only[putS,Option.some.injEq]at hp; subst hp; exact h
 |some d=>
  simp only[putS]at hp
  split at hp
  ·rename_i hlt
   have hlt':d<n:=by simpa[Nat.blt_eq]using hlt
   simp only[Option.some.injEq]at hp
   subst hp
   refine⟨by simp[Act.put,h.size],h.df,fun i u hi=>?_⟩
   simp only[getS]at hi
   simp only[Act.put]
   split at hi
   ·rename_i he
    have he':d=i:=Nat.eq_of_beq_eq_true he
    subst he'
    simp only[Option.some.injEq]at hi
    subst hi
    have hs:=h.size
    simp[hs,hlt']
   ·rename_i he
    have he':d≠i:=Nat.ne_of_beq_eq_false he
    rw[Array.getElem?_setIfInBounds_ne he']
    exact h.val i u hi
  ·cases hp
end
def inR(k:IntKind)(n:Int):Prop:=k.min<=n∧n<=k.max
theorem wrap_in{k:IntKind}{n:Int}(h:inR k n):k.wrap n=n:=by
 unfold inR at h
 cases k
 ·exact IntWalk.i8_in n (by simpa[IntKind.min,IntKind.max,IntKind.signed,IntKind.bits]using h)
 ·exact IntWalk.i16_in n (by simpa[IntKind.min,IntKind.max,IntKind.signed,IntKind.bits]using h)
 ·exact IntWalk.i32_in n (by simpa[IntKind.min,IntKind.max,IntKind.signed,IntKind.bits]using h)
 ·exact IntWalk.i64_in n (by simpa[IntKind.min,IntKind.max,IntKind.signed,IntKind.bits]using h)
 ·exact IntWalk.u8_in n (by simpa[IntKind.min,IntKind.max,IntKind.signed,IntKind.bits]using h)
 ·exact IntWalk.u16_in n (by simpa[IntKind.min,IntKind.max,IntKind.signed,IntKind.bits]using h)
 ·exact IntWalk.u32_in n (by simpa[IntKind.min,IntKind.max,IntKind.signed,IntKind.bits]using h)
 ·exact IntWalk.u64_in n (by simpa[IntKind.min,IntKind.max,IntKind.signed,IntKind.bits]using h)
theorem in64{n:Int}(h:-9223372036854775808<=n∧n<=9223372036854775807):inR .i64 n:=by
 simpa[inR,IntKind.min,IntKind.max,IntKind.signed,IntKind.bits]using h
theorem inU8{n:Int}(h:0<=n∧n<=255):inR .u8 n:=by
 simpa[inR,IntKind.min,IntKind.max,IntKind.signed,IntKind.bits]using h
theorem cast_succ(k:Nat):((k+1:Nat):Int)=(k:Int)+1:=by omega
theorem bytes_beq(a:ByteArray):(a==a)=true:=by rw[beq_toListBytes]; simp
def byteAt(s:ByteArray)(i:Nat):Int:=((s.data[i]?.getD 0).toNat:Int)
def partV(P:Program)(t:TypeId)(cs:Array Value)(off:Nat):Option Value:=
 match P.underlying t,P.info? t with
 |some (.struct _),some i=>some (.agg (cs.extract off (off+i.size)))
 |some (.array _ _),some i=>some (.agg (cs.extract off (off+i.size)))
 |some (.int _),some _=>cs[off]?
 |some .bool,some _=>cs[off]?
 |some .string,some _=>cs[off]?
 |_,_=>none
def eqFs(P:Program)(e:TypeId->Value->Value->Option Bool)(xs ys:Array Value):List Field->Option Bool
 |[]=>some true
 |f::fs=>
  if f.name ≠ "_" then
   match partV P f.type xs f.offset,partV P f.type ys f.offset with
   |some a,some b=>match e f.type a b,eqFs P e xs ys fs with
    |some r,some q=>some (r&&q)
    |_,_=>none
   |_,_=>none
  else eqFs P e xs ys fs
def eqV(P:Program):Nat->TypeId->Value->Value->Option Bool
 |0,_,_,_=>none
 |d+1,t,x,y=>
  match P.underlying t,x,y with
  |some (.int _),.int k a,.int k' b=>if k=k' then some (a==b)else none
  |some .bool,.bool a,.bool b=>some (a==b)
  |some .string,.string a,.string b=>some (a==b)
  |some (.struct fs),.agg xs,.agg ys=>if P.stoodInHeld t=false then eqFs P (eqV P d) xs ys fs.toList else none
  |_,_,_=>none
def andZ(a b:Int):Int:=((a.toNat &&& b.toNat:Nat):Int)
def orZ(a b:Int):Int:=((a.toNat ||| b.toNat:Nat):Int)
def xorZ(a b:Int):Int:=((a.toNat^^^b.toNat:Nat):Int)
def ovArith(op:BinOp)(k:IntKind)(a b:Int):Option (Value×Prop):=
 match op with
 |.add=>some (.int k (a+b),inR k (a+b))
 |.sub=>some (.int k (a-b),inR k (a-b))
 |.mul=>some (.int k (a*b),inR k (a*b))
 |.rem=>some (.int k (a%b),0<=a∧0<b)
 |.quo=>some (.int k (a/b),0<=a∧0<b∧a<=k.max)
 |.and=>some (.int k (andZ a b),0<=a∧0<=b∧a<=k.max∧b<=k.max)
 |.or=>some (.int k (orZ a b),0<=a∧0<=b∧a<=k.max∧b<=k.max)
 |.xor=>some (.int k (xorZ a b),0<=a∧0<=b∧a<=k.max∧b<=k.max)
 |_=>none
def ovInt(op:BinOp)(k:IntKind)(a:Int)(k':IntKind)(b:Int):Option (Value×Prop):=
 match op with
 |.shl=>some (.int k (a*((2^b.toNat:Nat):Int)),inR k (a*((2^b.toNat:Nat):Int))∧0<=b∧b<=(k.bits:Int))
 |.shr=>some (.int k (a/((2^b.toNat:Nat):Int)),0<=b∧b<=(k.bits:Int))
 |_=>if k=k' then ovArith op k a b else none
def ovNum(n:Nat)(op:BinOp)(k:IntKind)(a:Int)(k':IntKind)(b:Int):Option (Value×Prop):=
 match n,op with
 |1,.rem=>if k=k' then some (.int k (a.tmod b),b≠0)else none
 |_,_=>ovInt op k a k' b
def getN(P:Program)(t:TypeId):Option Nat:=(P.info? t).map (·.size)
def ovIndex(P:Program)(t:TypeId)(x ix:Value):Option (Value×Prop):=
 match P.underlying t,x,ix with
 |some (.slice e),.slice (some ⟨g,o,none⟩) len _,.int _ i=>
  match getN P e with
  |some z=>some (.pointer (some ⟨g,o+i.toNat*z,none⟩),0<=i∧i<len)
  |none=>none
 |some (.array len e),.pointer (some ⟨g,o,none⟩),.int _ i=>
  match getN P e with
  |some z=>some (.pointer (some ⟨g,o+i.toNat*z,none⟩),0<=i∧i<len)
  |none=>none
 |_,_,_=>none
def ovAt(P:Program)(t:TypeId)(x ix:Value):Option (Value×Prop):=
 match P.underlying t,x,ix with
 |some .string,.string s,.int _ i=>some (.int .u8 (byteAt s i.toNat),0<=i∧i<s.size)
 |_,_,_=>none
def ovCut(P:Program)(t:TypeId)(x:Value)(lo hi:Option Value):Option (Value×Prop):=
 match P.underlying t,x,lo,hi with
 |some .string,.string s,some (.int _ i),some (.int _ j)=>some (.string (s.extract i.toNat j.toNat),0<=i∧i<=j∧j<=s.size)
 |some .string,.string s,some (.int _ i),none=>some (.string (s.extract i.toNat s.size),0<=i∧i<=s.size)
 |some .string,.string s,none,some (.int _ j)=>some (.string (s.extract 0 j.toNat),0<=j∧j<=s.size)
 |_,_,_,_=>none
def slO(k c i o z:Nat):Nat:=match k with
 |0=>o+i*z
 |_=>bif Nat.beq c i then o else o+i*z
def slP(k i c:Nat):Prop:=match k with
 |0=>i<c
 |_=>True
def ovSl(P:Program)(k:Nat)(t:TypeId)(x:Value)(lo hi mx:Option Value):Option (Value×Prop):=
 match x with
 |.slice (some ⟨g,o,none⟩) n c=>match P.underlying t with
  |some (.slice e)=>match getN P e with
   |some z=>match lo,hi,mx with
    |some (.int _ i),none,none=>some (.slice (some ⟨g,slO k c i.toNat o z,none⟩) (n-i.toNat) (c-i.toNat),(0<=i∧i<=n)∧slP k i.toNat c)
    |none,some (.int _ j),none=>some (.slice (some ⟨g,o,none⟩) j.toNat c,0<=j∧j<=c)
    |some (.int _ i),some (.int _ j),none=>some (.slice (some ⟨g,slO k c i.toNat o z,none⟩) (j.toNat-i.toNat) (c-i.toNat),(0<=i∧i<=j∧j<=c)∧slP k i.toNat c)
    |some (.int _ i),some (.int _ j),some (.int _ m)=>some (.slice (some ⟨g,slO k m.toNat i.toNat o z,none⟩) (j.toNat-i.toNat) (m.toNat-i.toNat),(0<=i∧i<=j∧j<=m∧m<=c)∧slP k i.toNat m.toNat)
    |_,_,_=>none
   |none=>none
  |_=>none
 |_=>none
def minZ(a b:Int):Int:=if b<a then b else a
def maxZ(a b:Int):Int:=if b>a then b else a
def ovCall(ρ:Operand->Value)(c:Call):Option (Value×Prop):=
 match c.callee with
 |.builtin .min=>match c.args.toList with
  |[x,y]=>match ρ x,ρ y with
   |.int k a,.int _ b=>some (.int k (minZ a b),True)
   |_,_=>none
  |_=>none
 |.builtin .max=>match c.args.toList with
  |[x,y]=>match ρ x,ρ y with
   |.int k a,.int _ b=>some (.int k (maxZ a b),True)
   |_,_=>none
  |_=>none
 |_=>none
def ovConv(P:Program)(k:Nat)(src dst:TypeId)(x:Value):Option (Value×Prop):=
 match k,P.underlying src,P.underlying dst,x with
 |0,some _,some (.int d),.int _ n=>some (.int d n,inR d n)
 |1,some _,some (.int .u8),.int _ n=>some (.int .u8 (n%256),True)
 |_,_,_,_=>none
def ov(P:Program)(ρ:Operand->Value)(k:Nat):Op->Option (Value×Prop)
 |.pick c a b=>match k,ρ c with
  |0,.bool c=>match ρ a,ρ b with
   |.bool x,.bool y=>some (.bool (bif c then x else y),True)
   |_,_=>none
  |1,.bool c=>some (ρ a,c=true)
  |2,.bool c=>some (ρ b,c=false)
  |_,_=>none
 |.binOp op t x y _=>match ρ x,ρ y with
  |.int d a,.int d' b=>ovNum k op d a d' b
  |.agg xs,.agg ys=>
   if P.eqGuardType P.depth t=false then
    match op,eqV P 40 t (.agg xs) (.agg ys)with
    |.eql,some r=>some (.bool r,True)
    |.neq,some r=>some (.bool (!r),True)
    |_,_=>none
   else none
  |.string a,.string b=>match op with
   |.add=>some (.string (a++b),((a.size+b.size:Nat):Int)<=9223372036854775807)
   |_=>none
  |_,_=>none
 |.indexAddr t x ix=>ovIndex P t (ρ x) (ρ ix)
 |.index t x ix=>ovAt P t (ρ x) (ρ ix)
 |.slice t x lo hi mx=>match ovSl P k t (ρ x) (lo.map ρ) (hi.map ρ) (mx.map ρ)with
  |some r=>some r
  |none=>match mx with
   |none=>ovCut P t (ρ x) (lo.map ρ) (hi.map ρ)
   |some _=>none
 |.convert src dst x=>ovConv P k src dst (ρ x)
 |.call c=>ovCall ρ c
 |.unOp op _ x=>match op,ρ x with
  |.neg,.int k n=>some (.int k (0-n),inR k (0-n))
  |_,_=>none
 |_=>none
section
variable {P:Program}
theorem run_part{t:TypeId}{cs:Array Value}{off:Nat}{v:Value}(h:partV P t cs off=some v)(w:World):(part t cs off).run P w=.ok v w:=by
 unfold partV at h
 split at h
 ·rename_i fs i hu hi
  simp only[Option.some.injEq]at h
  subst h
  simp[part,isAgg,run_underlying hu,sizeOf,typeInfo,hi]
 ·rename_i n e i hu hi
  simp only[Option.some.injEq]at h
  subst h
  simp[part,isAgg,run_underlying hu,sizeOf,typeInfo,hi]
 ·rename_i k i hu hi
  simp[part,isAgg,run_underlying hu,h]
 ·rename_i i hu hi
  simp[part,isAgg,run_underlying hu,h]
 ·rename_i i hu hi
  simp[part,isAgg,run_underlying hu,h]
 ·cases h
theorem eqFs_run{e:TypeId->Value->Value->Option Bool}{d:Nat}(he:∀t x y r,e t x y=some r->∀w,(Op.equalIn d t x y).run P w=.ok r w){xs ys:Array Value} :
  ∀(fs:List Field)(r:Bool),eqFs P e xs ys fs=some r->∀w,(Op.eqFields d xs ys fs).run P w=.ok r w:=by
 intro fs
 induction fs with
 |nil=>
  intro r h w
  simp only[eqFs,Option.some.injEq]at h
  subst h
  rfl
 |cons f fs ih=>
  intro r h w
  simp only[eqFs]at h
  simp only[Op.eqFields]
  split at h
  ·rename_i hn
   rw[if_pos hn]
   split at h
   ·rename_i a b ha hb
    split at h
    ·rename_i x q hx hq
     simp only[Option.some.injEq]at h
     subst h
     have h1:=he _ _ _ _ hx w
     have h2:=ih _ hq w
     simp only[Sem.run_bind,run_part ha,run_part hb,Result.andThen_ok,h1,Sem.run_ite]
     cases x<;>simp[h2]
    ·cases h
   ·cases h
  ·rename_i hn
   rw[if_neg hn]
   exact ih _ h w
theorem eqV_run:∀(d:Nat)(t:TypeId)(x y:Value)(r:Bool),eqV P d t x y=some r->∀w,(Op.equalIn d t x y).run P w=.ok r w:=by
 intro d
 induction d with
 |zero=>intro t x y r h; cases h
 |succ d ih=>
  intro t x y r h w
  simp only[eqV]at h
  split at h
  ·rename_i k0 k a k' b hu
   split at h
   ·rename_i hk
    subst hk
    simp only[Option.some.injEq]at h
    subst h
    exact run_equalIn_int w d t k k0 a b hu
   ·cases h
  ·rename_i a b hu
   simp only[Option.some.injEq]at h
   subst h
   exact run_equalIn_bool w d t a b hu
  ·rename_i a b hu
   simp only[Option.some.injEq]at h
   subst h
   rw[run_equalIn_string w d t a b hu,<-beq_toListBytes]
  ·rename_i fs xs ys hu
   split at h
   ·rename_i hp
    have hf:P.fieldsOf t=fs:=by simp[Program.fieldsOf,hu]
    rw[run_equalIn_struct w d t xs ys (by rw[hf]; exact hu) hp,hf]
    exact eqFs_run ih _ _ h w
   ·cases h
  ·cases h
theorem eqV_more:∀(d d':Nat)(t:TypeId)(x y:Value)(r:Bool),d<=d'->eqV P d t x y=some r->eqV P d' t x y=some r:=by
 intro d
 induction d with
 |zero=>intro d' t x y r _ h; cases h
 |succ d ih=>
  intro d' t x y r hd h
  cases d' with
  |zero=>omega
  |succ d'=>
   have key:∀(xs ys:Array Value)(fs:List Field)(r:Bool),eqFs P (eqV P d) xs ys fs=some r->eqFs P (eqV P d') xs ys fs=some r:=by
    intro xs ys fs
    induction fs with
    |nil=>intro r h; exact h
    |cons f fs ih2=>
     intro r h
     simp only[eqFs]at h ⊢
     split at h
     ·rename_i hn
      rw[if_pos hn]
      split at h
      ·rename_i a b ha hb
       split at h
       ·rename_i p q hp hq
        simp only[ih d' _ _ _ _ (by omega) hp,ih2 _ hq]
        exact h
       ·cases h
      ·cases h
     ·rename_i hn
      rw[if_neg hn]
      exact ih2 _ h
   simp only[eqV]at h ⊢
   split at h
   ·exact h
   ·exact h
   ·exact h
   ·rename_i fs xs ys hu
    split at h
    ·rename_i hp
     simp only[hp,if_true]
     exact key _ _ _ _ h
    ·cases h
   ·cases h
theorem add_norm(g o n:Nat):(⟨g,o,none⟩:Addr).add n=⟨g,o+n,none⟩:=by
 unfold Addr.add
 split
 ·rename_i h; subst h; rfl
 ·rfl
def topBits(k:IntKind):Nat:=if k.signed then k.bits-1 else k.bits
theorem max_top(k:IntKind):k.max=((2^topBits k:Nat):Int)-1:=by cases k<;>decide
theorem lt_top{k:IntKind}{a:Int}(h1:0<=a)(h3:a<=k.max):a.toNat<2^topBits k:=by
 rw[max_top]at h3
 omega
theorem top_le(k:IntKind):topBits k<=k.bits:=by cases k<;>decide
theorem wrap_under{k:IntKind}{n:Nat}(h:n<2^topBits k):k.wrap (n:Int)=(n:Int):=by
 refine wrap_in ⟨?_,?_⟩
 ·have:k.min<=0:=by cases k<;>decide
  omega
 ·rw[max_top]
  omega
theorem wrap_bits{k:IntKind}{n:Nat}{a:Int}(h:n<=a.toNat)(h3:a<=k.max):k.wrap (n:Int)=(n:Int):=by
 refine wrap_in ⟨?_,?_⟩
 ·have:k.min<=0:=by cases k<;>decide
  omega
 ·have:0<=k.max:=by cases k<;>decide
  omega
theorem toNat_ofInt_in{k:IntKind}{a:Int}(h1:0<=a)(h3:a<=k.max):(BitVec.ofInt k.bits a).toNat=a.toNat:=by
 have h:=Nat.lt_of_lt_of_le (lt_top h1 h3) (Nat.pow_le_pow_right (by decide) (top_le k))
 rw[BitVec.toNat_ofInt]
 have e:a%((2^k.bits:Nat):Int)=a:=Int.emod_eq_of_lt h1 (by omega)
 rw[e]
theorem ovArith_sound{op:BinOp}{k:IntKind}{a b:Int}{v:Value}{p:Prop}(h:ovArith op k a b=some (v,p))(hp:p)(t:TypeId)(w:World) :
  (binOp op t (.int k a) (.int k b)).run P w=.ok v w:=by
 cases op<;>simp only[ovArith,Option.some.injEq,Prod.mk.injEq,reduceCtorEq]at h
 all_goals obtain⟨rfl,rfl⟩:=h
 ·simp[binOp,Op.intArith,wrap_in hp]
 ·simp[binOp,Op.intArith,wrap_in hp]
 ·simp[binOp,Op.intArith,wrap_in hp]
 ·obtain⟨h1,h2,h3⟩:=hp
  have hb:b≠0:=by omega
  have e:a.tdiv b=a/b:=Int.tdiv_eq_ediv_of_nonneg h1
  have h4:0<=a/b:=Int.ediv_nonneg h1 (by omega)
  have h5:a/b<=a:=Int.ediv_le_self b h1
  have h6:k.min<=0:=by cases k<;>decide
  have e2:k.wrap (a/b)=a/b:=wrap_in ⟨by omega,by omega⟩
  simp[binOp,Op.intDiv,hb,e,e2]
 ·obtain⟨h1,h2⟩:=hp
  have hb:b≠0:=by omega
  have e:a.tmod b=a%b:=Int.tmod_eq_emod_of_nonneg h1
  simp[binOp,Op.intDiv,hb,e]
 ·obtain⟨h1,h2,h3,h4⟩:=hp
  rw[show binOp .and t (.int k a) (.int k b)=Op.intBits .and k a b by simp[binOp]]
  simp only[Op.intBits,BitVec.toNat_and,toNat_ofInt_in h1 h3,toNat_ofInt_in h2 h4]
  rw[wrap_bits (Nat.le_trans Nat.and_le_left (by omega)) h3]
  rfl
 ·obtain⟨h1,h2,h3,h4⟩:=hp
  rw[show binOp .or t (.int k a) (.int k b)=Op.intBits .or k a b by simp[binOp]]
  simp only[Op.intBits,BitVec.toNat_or,toNat_ofInt_in h1 h3,toNat_ofInt_in h2 h4]
  rw[wrap_under (Nat.or_lt_two_pow (lt_top h1 h3) (lt_top h2 h4))]
  rfl
 ·obtain⟨h1,h2,h3,h4⟩:=hp
  rw[show binOp .xor t (.int k a) (.int k b)=Op.intBits .xor k a b by simp[binOp]]
  simp only[Op.intBits,BitVec.toNat_xor,toNat_ofInt_in h1 h3,toNat_ofInt_in h2 h4]
  rw[wrap_under (Nat.xor_lt_two_pow (lt_top h1 h3) (lt_top h2 h4))]
  rfl
theorem ovInt_sound{op:BinOp}{k k':IntKind}{a b:Int}{v:Value}{p:Prop}(h:ovInt op k a k' b=some (v,p))(hp:p)(t:TypeId)(w:World) :
  (binOp op t (.int k a) (.int k' b)).run P w=.ok v w:=by
 unfold ovInt at h
 split at h
 ·simp only[Option.some.injEq,Prod.mk.injEq]at h
  obtain⟨rfl,rfl⟩:=h
  obtain⟨h1,h2,h3⟩:=hp
  have hm:min b.toNat k.bits=b.toNat:=by omega
  have e:a*2^b.toNat=a*((2^b.toNat:Nat):Int):=by rw[Int.natCast_pow]; rfl
  have h4:¬b<0:=by omega
  simp only[binOp,Op.shift,if_neg h4,hm,e,wrap_in h1]
  rfl
 ·simp only[Option.some.injEq,Prod.mk.injEq]at h
  obtain⟨rfl,rfl⟩:=h
  obtain⟨h2,h3⟩:=hp
  have hm:min b.toNat k.bits=b.toNat:=by omega
  have e:a.fdiv (2^b.toNat)=a/((2^b.toNat:Nat):Int):=by
   rw[Int.natCast_pow]
   exact Int.fdiv_eq_ediv_of_nonneg _ (Int.pow_nonneg (by decide))
  have h4:¬b<0:=by omega
  simp only[binOp,Op.shift,if_neg h4,hm,e]
  rfl
 ·split at h
  ·rename_i hk
   subst hk
   exact ovArith_sound h hp t w
  ·cases h
theorem ovIndex_sound{t:TypeId}{x ix v:Value}{p:Prop}(h:ovIndex P t x ix=some (v,p))(hp:p)(w:World):(Instr.indexAt t x ix).run P w=.ok v w:=by
 unfold ovIndex at h
 split at h
 ·rename_i e g o len c k i hu
  split at h
  ·rename_i z hz
   simp only[Option.some.injEq,Prod.mk.injEq]at h
   obtain⟨rfl,rfl⟩:=h
   have he:P.elem t=e:=by simp[Program.elem,hu]
   obtain⟨inf,hi,rfl⟩:=Option.map_eq_some_iff.1 hz
   rw[run_indexAt_slice w t _ len c k i (by rw[he]; exact hu),if_pos hp,he]
   simp[sizeOf,typeInfo,hi,add_norm]
  ·cases h
 ·rename_i len e g o k i hu
  split at h
  ·rename_i z hz
   simp only[Option.some.injEq,Prod.mk.injEq]at h
   obtain⟨rfl,rfl⟩:=h
   have he:P.elem t=e:=by simp[Program.elem,hu]
   have hl:P.arrayLen t=len:=by simp[Program.arrayLen,hu]
   obtain⟨inf,hi,rfl⟩:=Option.map_eq_some_iff.1 hz
   rw[run_indexAt_array w t _ k i (by rw[he,hl]; exact hu),hl,if_pos hp,he]
   simp[sizeOf,typeInfo,hi,add_norm]
  ·cases h
 ·cases h
theorem ovAt_sound{t:TypeId}{x ix v:Value}{p:Prop}(h:ovAt P t x ix=some (v,p))(hp:p)(w:World):(Instr.index t x ix).run P w=.ok v w:=by
 unfold ovAt at h
 split at h
 ·rename_i s k i hu
  simp only[Option.some.injEq,Prod.mk.injEq]at h
  obtain⟨rfl,rfl⟩:=h
  rw[run_index_string w t s k i hu,dif_pos hp]
  have hlt:i.toNat<s.data.size:=by
    have h2:i.toNat<s.size:=by omega
    exact h2
  simp only[byteAt,Array.getElem?_eq_getElem hlt,Option.getD_some]
  rfl
 ·cases h
theorem ovCut_sound{t:TypeId}{x v:Value}{lo hi:Option Value}{p:Prop}(h:ovCut P t x lo hi=some (v,p))(hp:p)(w:World):(Instr.slice t x lo hi none).run P w=.ok v w:=by
 unfold ovCut at h
 split at h
 ·rename_i s k i k' j hu
  simp only[Option.some.injEq,Prod.mk.injEq]at h
  obtain⟨rfl,rfl⟩:=h
  exact run_slice_string w t s k k' i j hu hp.1 hp.2.1 hp.2.2
 ·rename_i s k i hu
  simp only[Option.some.injEq,Prod.mk.injEq]at h
  obtain⟨rfl,rfl⟩:=h
  rw[run_slice_string_from_if w t s k i hu,if_pos hp]
 ·rename_i s k j hu
  simp only[Option.some.injEq,Prod.mk.injEq]at h
  obtain⟨rfl,rfl⟩:=h
  rw[run_slice_string_to_if w t s k j hu,if_pos hp]
 ·cases h
theorem slO_addr{k c i o z g:Nat}(h:slP k i c):(if c=i then some ⟨g,o,none⟩else(some (⟨g,o,none⟩:Addr)).map (·.add (i*z)))=some (⟨g,slO k c i o z,none⟩:Addr):=by
 cases k with
 |zero=>
  have h':i<c:=h
  rw[if_neg (by omega)]
  simp[slO,add_norm]
 |succ k=>
  by_cases e:c=i
  ·simp[slO,e]
  ·rw[if_neg e]
   have e2:Nat.beq c i=false:=by
    cases hb:Nat.beq c i with
    |false=>rfl
    |true=>exact absurd (Nat.eq_of_beq_eq_true hb) e
   simp[slO,e2,add_norm]
theorem ovSl_sound{k:Nat}{t:TypeId}{x v:Value}{lo hi mx:Option Value}{p:Prop}(h:ovSl P k t x lo hi mx=some (v,p))(hp:p)(w:World):(Instr.sliceAt t x lo hi mx).run P w=.ok v w:=by
 unfold ovSl at h
 split at h
 ·rename_i g o n c
  split at h
  ·rename_i e hu
   have he:P.elem t=e:=by simp[Program.elem,hu]
   have ht:P.underlying t=some (.slice (P.elem t)):=by rw[he]; exact hu
   split at h
   ·rename_i z hz
    obtain⟨inf,hi1,hi2⟩:=Option.map_eq_some_iff.1 hz
    have hs:∀w,(sizeOf (P.elem t)).run P w=.ok z w:=fun w=>by simp[sizeOf,typeInfo,he,hi1,hi2]
    rw[run_sliceAt_slice w t _ _ _ _ ht]
    split at h
    ·rename_i kk i
     simp only[Option.some.injEq,Prod.mk.injEq]at h
     obtain⟨rfl,rfl⟩:=h
     rw[run_slice_l w t _ n c ht kk i hp.1.1 hp.1.2]
     simp only[hs,Result.andThen_ok,sliced]
     rw[slO_addr hp.2]
    ·rename_i kk j
     simp only[Option.some.injEq,Prod.mk.injEq]at h
     obtain⟨rfl,rfl⟩:=h
     rw[run_slice_h w t _ n c ht kk j hp.1 hp.2]
     simp only[hs,Result.andThen_ok,sliced]
     by_cases e0:c=0<;>simp[e0,add_norm]
    ·rename_i kk i kk' j
     simp only[Option.some.injEq,Prod.mk.injEq]at h
     obtain⟨rfl,rfl⟩:=h
     rw[run_slice_lh w t _ n c ht kk kk' i j hp.1.1 hp.1.2.1 hp.1.2.2]
     simp only[hs,Result.andThen_ok,sliced]
     rw[slO_addr hp.2]
    ·rename_i kk i kk' j kk'' m
     simp only[Option.some.injEq,Prod.mk.injEq]at h
     obtain⟨rfl,rfl⟩:=h
     rw[run_slice_lhm w t _ n c ht kk kk' kk'' i j m hp.1.1 hp.1.2.1 hp.1.2.2.1 hp.1.2.2.2]
     simp only[hs,Result.andThen_ok,sliced]
     rw[slO_addr hp.2]
    ·cases h
   ·cases h
  ·cases h
 ·cases h
theorem slice_not_array{t:TypeId}{x v:Value}{lo hi:Option Value}{p:Prop}(h:ovCut P t x lo hi=some (v,p)):P.underlying t=some .string:=by
 unfold ovCut at h
 split at h<;>first|assumption|cases h
theorem ovNum_sound{n:Nat}{op:BinOp}{k k':IntKind}{a b:Int}{v:Value}{p:Prop}(h:ovNum n op k a k' b=some (v,p))(hp:p)(t:TypeId)(w:World) :
  (binOp op t (.int k a) (.int k' b)).run P w=.ok v w:=by
 unfold ovNum at h
 split at h
 ·split at h
  ·rename_i e
   subst e
   simp only[Option.some.injEq,Prod.mk.injEq]at h
   obtain⟨rfl,rfl⟩:=h
   simp[binOp,Op.intDiv,hp]
  ·cases h
 ·exact ovInt_sound h hp t w
theorem ov_sound{ρ:Operand->Value}{k:Nat}{o:Oper}{v:Value}{p:Prop}(h:ov P ρ k o.op=some (v,p))(hp:p)(w:World):(execOp ρ o).run P w=.ok (.value v) w:=by
 obtain⟨dst,op,ty,pos,after,guard⟩:=o
 simp only at h
 unfold ov at h
 split at h
 ·rename_i c a b
  split at h
  ·rename_i cb hc
   split at h
   ·rename_i x y hx hy
    simp only[Option.some.injEq,Prod.mk.injEq]at h
    obtain⟨rfl,rfl⟩:=h
    simp only[execOp,hc,hx,hy]
    cases cb<;>simp[asBool]
   ·cases h
  ·rename_i cb hc
   simp only[Option.some.injEq,Prod.mk.injEq]at h
   obtain⟨rfl,rfl⟩:=h
   simp[execOp,hc,asBool,hp]
  ·rename_i cb hc
   simp only[Option.some.injEq,Prod.mk.injEq]at h
   obtain⟨rfl,rfl⟩:=h
   simp[execOp,hc,asBool,hp]
  ·cases h
 ·rename_i op t x y yt
  split at h
  ·rename_i kk a k' b hx hy
   have h1:=ovNum_sound (P:=P) h hp t w
   simp only[execOp,hx,hy]
   simp[eqGuard,h1]
  ·rename_i xs ys hx hy
   split at h
   ·rename_i hg
    split at h
    ·rename_i r hr
     simp only[Option.some.injEq,Prod.mk.injEq]at h
     obtain⟨rfl,rfl⟩:=h
     have h1:=eqV_run 10000 t (.agg xs) (.agg ys) r (eqV_more 40 10000 _ _ _ _ (by omega) hr) w
     simp only[execOp,hx,hy]
     simp[run_eqGuard_agg w _ t x y xs ys hg,run_eql_struct,h1]
    ·rename_i r hr
     simp only[Option.some.injEq,Prod.mk.injEq]at h
     obtain⟨rfl,rfl⟩:=h
     have h1:=eqV_run 10000 t (.agg xs) (.agg ys) r (eqV_more 40 10000 _ _ _ _ (by omega) hr) w
     simp only[execOp,hx,hy]
     simp[run_eqGuard_agg w _ t x y xs ys hg,run_neq_struct,h1]
    ·cases h
   ·cases h
  ·rename_i a b hx hy
   split at h
   ·simp only[Option.some.injEq,Prod.mk.injEq]at h
    obtain⟨rfl,rfl⟩:=h
    have h2:¬((a.size+b.size:Nat):Int)>IntKind.i64.max:=by
     have:IntKind.i64.max=9223372036854775807:=by decide
     omega
    simp only[execOp,hx,hy]
    simp only[eqGuard,binOp,Op.stringOp,if_neg h2]
    simp
   ·cases h
  ·cases h
 ·rename_i t x ix
  have h1:=ovIndex_sound h hp w
  simp[execOp,h1]
 ·rename_i t x ix
  have h1:=ovAt_sound h hp w
  simp[execOp,h1]
 ·rename_i t x lo hi mx
  split at h
  ·rename_i r hr
   simp only[Option.some.injEq]at h
   subst h
   have h1:=ovSl_sound hr hp w
   simp[execOp,h1]
  ·split at h
   ·have hu:=slice_not_array h
    have h1:=ovCut_sound h hp w
    simp[execOp,Instr.sliceAt,run_underlying hu,h1]
   ·cases h
 ·rename_i src dst x
  unfold ovConv at h
  split at h
  ·rename_i s d k n hs hd hx
   simp only[Option.some.injEq,Prod.mk.injEq]at h
   obtain⟨rfl,rfl⟩:=h
   have hk:P.intKind dst=d:=by simp[Program.intKind,hd]
   have h1:=run_convert_int w src dst k n (by rw[hs]; rfl) (by rw[hk]; exact hd)
   rw[hk,wrap_in hp]at h1
   simp[execOp,hx,h1]
  ·rename_i s k n hs hd hx
   simp only[Option.some.injEq,Prod.mk.injEq]at h
   obtain⟨rfl,rfl⟩:=h
   have hk:P.intKind dst=.u8:=by simp[Program.intKind,hd]
   have h1:=run_convert_int w src dst k n (by rw[hs]; rfl) (by rw[hk]; exact hd)
   rw[hk,show IntKind.wrap .u8 n=n%256 from by simp[IntKind.wrap,IntKind.bits,IntKind.signed]]at h1
   simp[execOp,hx,h1]
  ·cases h
 ·rename_i c
  obtain⟨callee,args,ats⟩:=c
  unfold ovCall at h
  simp only at h
  split at h
  ·split at h
   ·rename_i x y hxy
    split at h
    ·rename_i k a k' b hx hy
     simp only[Option.some.injEq,Prod.mk.injEq]at h
     obtain⟨rfl,rfl⟩:=h
     have ea:args=#[x,y]:=by rw[<-Array.toArray_toList (xs:=args),hxy]
     subst ea
     simp[execOp,resolve,invoke,builtin,hx,hy,run_min_int2,minZ]
    ·cases h
   ·cases h
  ·split at h
   ·rename_i x y hxy
    split at h
    ·rename_i k a k' b hx hy
     simp only[Option.some.injEq,Prod.mk.injEq]at h
     obtain⟨rfl,rfl⟩:=h
     have ea:args=#[x,y]:=by rw[<-Array.toArray_toList (xs:=args),hxy]
     subst ea
     simp[execOp,resolve,invoke,builtin,hx,hy,run_max_int2,maxZ]
    ·cases h
   ·cases h
  ·cases h
 ·rename_i op _ x
  split at h
  ·rename_i k n hx
   simp only[Option.some.injEq,Prod.mk.injEq]at h
   obtain⟨rfl,rfl⟩:=h
   have hw:=wrap_in hp
   simp only[execOp,hx,Op.unary,Op.intArith,hw]
   rfl
  ·cases h
 ·cases h
end
end Go.Proofs.YtcmpkkapkdlfhaaGreat
