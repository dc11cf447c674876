/-
  The executor over abstract heaps and its soundness, for the lemmas that the card needs; no conditions but those that each lemma names.
-/
import Derived.Test.YtfdnpjbmhoapcaaGreatDoorNax0
import Derived.Orders
import Derived.Below
import Derived.Laws.StructEq
import Derived.WalkLawsBesides
import Derived.RowKit3
import Derived.Laws.Strings
import Derived.Laws.BytesString
set_option linter.all false
set_option maxHeartbeats 32000000
namespace Go.AX
noncomputable section
inductive ae where
 |bool (b:Bool)
 |int (k:IntKind) (n:Int)
 |str (s:List Nat)
 |dt
 |ptr (b o:Nat)
 |af
 |slice (b o n c:Nat) (ex:Bool)
 |b8
 |map (r:Nat)
 |func (f:FuncId) (first captured:List ae)
 |fb
 |iface (t:TypeId) (v:ae)
 |dq
 |agg (l:List ae)
 |eC (l:List ae)
 deriving Inhabited
def aT:ae:=.eC []
def ae.flat:ae->Bool
 |.agg _|.eC _=>false
 |_=>true
def ae.cells:ae->List ae
 |.agg l=>l
 |v=>[v]
inductive T (α:Type) where
 |nil
 |node (v:Option α) (l r:T α)
 deriving Inhabited
@[reducible] def ob {α β:Type}(o:Option α)(k:α->Option β):Option β:=@Option.rec α (λ_=>Option β) none k o
@[reducible] def aO {α:Type}(b:Bool)(x y:α):α:=@Bool.rec (λ_=>α) y x b
def bits (n:Nat):Nat->List Bool :=
 @Nat.rec (λ_=>Nat->List Bool) (λ_=>[]) (λ_ ih k=>aO (Nat.beq k 0) [] (Nat.beq (Nat.mod k 2) 1 :: ih (Nat.div (Nat.sub k 1) 2))) n
def path (k:Nat):List Bool:=bits (Nat.succ k) k
namespace T
variable{α:Type}
def N6 (t:T α):List Bool->Option α :=
 @T.rec α (λ_=>List Bool->Option α) (λ_=>none) (λv _ _ ihl ihr p=>@List.rec Bool (λ_=>Option α) v (λb p _=>aO b (ihl p) (ihr p)) p) t
def rz (x:Option α)(p:List Bool):T α->T α :=
 @List.rec Bool (λ_=>T α->T α)
  (λt=>@T.rec α (λ_=>T α) (.node x .nil .nil) (λ_ l r _ _=>.node x l r) t)
  (λb _ ih t=>@T.rec α (λ_=>T α) (aO b (.node none (ih .nil) .nil) (.node none .nil (ih .nil))) (λv l r _ _=>aO b (.node v (ih l) r) (.node v l (ih r))) t) p
def get (t:T α)(k:Nat):Option α:=t.N6 (path k)
def set (t:T α)(k:Nat)(x:α):T α:=t.rz (some x) (path k)
end T
inductive aE where
 |cells (c:List ae) (elem:TypeId)
 |ro (c:List ae) (elem:TypeId)
 |map (es:List (ae×ae×Nat)) (clock:Nat)
 |mapIter (map:Option Nat) (since:Nat) (seen:List Nat) (th:Nat)
 |dead
 deriving Inhabited
structure aa where
 next:Nat
 t:T aE
 deriving Inhabited
def aa.get (h:aa)(b:Nat):Option aE:=h.t.get b
def aa.put (h:aa)(b:Nat)(o:aE):aa:=⟨h.next,h.t.set b o⟩
def aa.push (h:aa)(o:aE):aa:=⟨Nat.succ h.next,h.t.set h.next o⟩
abbrev Fr:=T ae
abbrev R:=Option (ae×aa)
def HG (own:Bool)(v:ae):Bool:=aO own true v.flat
def yk (own:Bool)(l:List ae):Bool:=aO own true (@List.rec ae (λ_=>Bool) true (λv _ ih=>aO v.flat ih false) l)
structure Fix where
 next:Nat
 args:List ae
 rows:List (Nat×List ae×TypeId)
 v:ae
 new:List (Nat×List ae×TypeId)
 next':Nat
 deriving Inhabited
inductive Prim where
 |gg (t:TypeId)
 |fix (x:Fix)
 |consts (l:List (List ae×ae))
 |fn (g:List ae->aa->R)
 deriving Inhabited
inductive FK where
 |b|i|s
 deriving Inhabited
structure Env where
 uG:T Prim
 ti:T TypeInfo
 fn:T Func
 eqs:T (List (Nat×FK))
 dy:T (List (Nat×List Nat))
def Env.info (E:Env)(t:TypeId):Option TypeInfo:=E.ti.get t
def Env.mr (E:Env)(t:TypeId):Option TypeDesc :=
 match E.info t with
 |some {desc:=.named _ u,..}=>(E.info u).map (·.desc)
 |some i=>some i.desc
 |none=>none
def Env.size (E:Env)(t:TypeId):Option Nat:=(E.info t).map (·.size)
def cv:Nat->Value->Option ae
 |0,_=>none
 |_+1,.bool b=>some (.bool b)
 |_+1,.int k n=>some (.int k n)
 |_+1,.string s=>some (.str (s.data.toList.map UInt8.toNat))
 |_+1,.pointer none=>some .dt
 |_+1,.slice none 0 0=>some .af
 |_+1,.map none=>some .b8
 |_+1,.nilFunc=>some .fb
 |_+1,.nilIface=>some .dq
 |n+1,.iface t v=>(cv n v).map (.iface t)
 |n+1,.agg cs=>(cs.toList.mapM (cv n)).bind λl=>if l.all ae.flat then some (.agg l) else none
 |n+1,.tuple cs=>(cs.toList.mapM (cv n)).map .eC
 |_,_=>none
inductive au where
 |t (s:Nat)
 |c (v:ae)
 deriving Inhabited
inductive Src where
 |len (n:Nat)|str|slice|map
 deriving Inhabited
inductive yv where
 |bool|ptr|slice|map|func|iface (const:Bool)|agg (eU:List (Nat×FK))|none
 deriving Inhabited
inductive iH where
 |one (k:FK)|agg (eU:List (Nat×FK))
 deriving Inhabited
inductive dS where
 |mv (x:au)
 |pick (c a b:au)
 |box (t:TypeId) (x:au)
 |build (zero:List ae) (parts:List (Nat×Nat×au))
 |buildSlice (elem:TypeId) (len:Nat) (zero:List ae) (parts:List (Nat×Nat×au))
 |ct (x:au)
 |fJ (n:Nat) (x:au)
 |store (n:Nat) (a v:au)
 |nilCheck (x:au)
 |bin (op:BinOp) (q:yv) (x y:au)
 |not (x:au)
 |neg (x:au)
 |px (k:IntKind) (x:au)
 |uc (x:au)
 |dQ (e:TypeId) (x:au)
 |dw (x:au)
 |eP (t:TypeId) (x:au)
 |iu (f:FuncId) (first captured:List au)
 |mkMap
 |mkSlice (elem:TypeId) (zero:List ae) (bytes:Nat) (l c:au)
 |nk (x:au) (lo hi:Option au)
 |qR (elem:TypeId) (size:Nat) (x:au) (lo hi mx:Option au)
 |ox (n size:Nat) (x:au) (lo hi:Option au)
 |dh (off:Nat) (x:au)
 |lV (off:Nat) (x:au)
 |mY (off n:Nat) (x:au)
 |nR (len size:Nat) (x i:au)
 |kz (size:Nat) (x i:au)
 |vM (len size:Nat) (x i:au)
 |vN (len size:Nat) (x i:au)
 |kh (x i:au)
 |lookup (q:iH) (zero:ae) (x k:au) (ok:Bool)
 |fj (q:iH) (m k v:au)
 |mapEntry (q:iH) (zero:ae) (m k:au)
 |entryStore (m s v:au)
 |range (x:au)
 |next (it:au)
 |entry (it:au)
 |assert (t:TypeId) (zero:ae) (ok:Bool) (x:au)
 |extract (i:Nat) (x:au)
 |len (s:Src) (x:au)
 |append (elem:TypeId) (size:Nat) (s x:au)
 |copy (size:Nat) (s x:au)
 |fk (isMax:Bool) (l:List au)
 |dR (x:au)
 |eF (u:TypeId) (x n:au)
 |call (f:au) (args:List au)
 |invoke (recv:au) (name:String) (args:List au)
 |bad
 deriving Inhabited
structure aQ where
 dst:Option Nat
 guard:Option (Nat×Bool)
 op:dS
 deriving Inhabited
inductive Cls where
 |pure|read|new|wr
 deriving Inhabited,DecidableEq
structure aP where
 o:aQ
 i:Nat
 cls:Cls
 re:List aQ
 deriving Inhabited
inductive ax where
 |skip
 |region (ops:List aQ)
 |drawn (n:Nat) (steps:List aP)
 |seq (a b:ax)
 |cond (c:au) (a b:ax)
 |block (id:Nat) (body:ax)
 |loop (body:ax)
 |exit (id:Nat)
 |ret
 deriving Inhabited
section compile
variable(E:Env)
def cO:Operand->Option au
 |.tmp t=>some (.t t)
 |.const v=>(cv 8 v).map .c
 |.func f=>bif Nat.blt f 1000000000 then some (.c (.func f [] [])) else none
 |.global _=>none
def Zd (l:Array Operand):Option (List au):=l.toList.mapM cO
def zA:Option Operand->Option (Option au)
 |none=>some none
 |some x=>(cO x).map some
def iV (t:TypeId):Option Bool :=
 match E.mr t with
 |some (.struct _)|some (.array _ _)=>some true
 |some _=>some false
 |none=>none
def zeroV (t:TypeId):Option ae:=do
 let i <-E.info t
 let z <-i.zero
 cv 8 z
def lG (t:TypeId):Option (List ae×Nat):=do
 let z <-zeroV E t
 let n <-E.size t
 if z.cells.length=n/\z.cells.all ae.flat=true then some (z.cells,n) else none
def Dv (place:Nat->Option (Nat×Nat))(parts:Array (Nat×Operand)):Option (List (Nat×Nat×au)) :=
 parts.toList.mapM λ(i,x)=>do
  let(o,n) <-place i
  let x <-cO x
  pure (o,n,x)
def isC:Operand->Bool
 |.const _=>true
 |_=>false
def cEq (t:TypeId)(x y:Operand):yv :=
 match E.mr t with
 |some .bool=>.bool
 |some (.pointer e)=>match E.size e with
  |some 0|none=>.none
  |some _=>.ptr
 |some (.slice _)=>.slice
 |some (.map _ _)=>.map
 |some (.func _ _ _)=>.func
 |some (.interface _)=>.iface (isC x || isC y)
 |some (.struct _)=>match E.eqs.get t with
  |some l=>.agg l
  |none=>.none
 |_=>.none
def M8 (t:TypeId):Option iH :=
 match E.mr t with
 |some (.map k _)=>match E.mr k with
  |some (.int _)=>some (.one .i)
  |some .string=>some (.one .s)
  |some .bool=>some (.one .b)
  |some (.struct _)=>(E.eqs.get k).map .agg
  |_=>none
 |_=>none
def IV (t:TypeId)(x:Operand):Option dS:=do
 match <-E.mr t with
 |.string=>pure (.len .str (<-cO x))
 |.slice _=>pure (.len .slice (<-cO x))
 |.map _ _=>pure (.len .map (<-cO x))
 |.array n _=>pure (.len (.len n) (<-cO x))
 |.pointer arr=>do
  let .array n _ <-E.mr arr|none
  pure (.len (.len n) (<-cO x))
 |_=>none
def qh (t u:TypeId)(s x:Operand):Option dS:=do
 let .slice elem <-E.mr t|none
 match <-E.mr u with
 |.int _=>none
 |_=>do
  let i <-E.info elem
  let z <-lG E elem
  if i.bytes<=4096/\0<i.bytes then pure (.append elem z.2 (<-cO s) (<-cO x)) else none
def zq (t:TypeId)(s x:Operand):Option dS:=do
 let .slice elem <-E.mr t|none
 pure (.copy (<-E.size elem) (<-cO s) (<-cO x))
def jN (t:TypeId)(x n:Operand):Option dS:=do
 let .pointer u <-E.mr t|none
 if E.size u=some 1 then pure (.eF u (<-cO x) (<-cO n)) else none
def mD:Builtin->List Operand->Array TypeId->Option dS
 |.len,[x],Ls=>do IV E (<-Ls[0]?) x
 |.append,[s,x],Ls=>do qh E (<-Ls[0]?) (<-Ls[1]?) s x
 |.copy,[s,x],Ls=>do zq E (<-Ls[0]?) s x
 |.max,l,_=>do pure (.fk true (<-l.mapM cO))
 |.min,l,_=>do pure (.fk false (<-l.mapM cO))
 |.unsafeSliceData,[x],_=>do pure (.dR (<-cO x))
 |.unsafeString,[x,n],Ls=>do jN E (<-Ls[0]?) x n
 |_,_,_=>none
def iJ:Op->Option dS
 |.move x|.assign x=>(cO x).map .mv
 |.pick c a b=>do pure (.pick (<-cO c) (<-cO a) (<-cO b))
 |.alloc t=>do
  let z <-zeroV E t
  pure (.box t (.c z))
 |.box t x=>do pure (.box t (<-cO x))
 |.build t parts=>do
  let z <-lG E t
  match <-E.mr t with
  |.struct fields=>do
   let ps <-Dv (λi=>do let f <-fields[i]?;let n <-E.size f.type;some (f.offset,n)) parts
   if fields.all (λf=>(E.size f.type).isSome)=true then pure (.build z.1 ps) else none
  |.array _ elem=>do
   let n <-E.size elem
   let ps <-Dv (λi=>some (i*n,n)) parts
   pure (.build z.1 ps)
  |_=>none
 |.buildSlice t len parts=>do
  let .slice elem <-E.mr t|none
  let z <-lG E elem
  let ps <-Dv (λi=>some (i*z.2,z.2)) parts
  if len*z.2<=2 ^ 20 then pure (.buildSlice elem len z.1 ps) else none
 |.insert t m k v|.mapUpdate t m k v=>do pure (.fj (<-M8 E t) (<-cO m) (<-cO k) (<-cO v))
 |.mapEntry t m k=>do
  let .map _ elem <-E.mr t|none
  pure (.mapEntry (<-M8 E t) (<-zeroV E elem) (<-cO m) (<-cO k))
 |.entryStore _ m s v=>do pure (.entryStore (<-cO m) (<-cO s) (<-cO v))
 |.load t a=>do
  if <-iV E t then pure (.fJ (<-E.size t) (<-cO a)) else pure (.ct (<-cO a))
 |.store t a v=>do pure (.store (<-E.size t) (<-cO a) (<-cO v))
 |.nilCheck x=>do pure (.nilCheck (<-cO x))
 |.binOp op t x y _=>do pure (.bin op (cEq E t x y) (<-cO x) (<-cO y))
 |.unOp .not _ x=>do pure (.not (<-cO x))
 |.unOp .neg _ x=>do pure (.neg (<-cO x))
 |.convert s d x=>do
  match <-E.mr s,<-E.mr d with
  |.int _,.int k=>pure (.px k (<-cO x))
  |.string,.string=>pure (.uc (<-cO x))
  |.string,.slice e=>do
   let .int .u8 <-E.mr e|none
   if E.size e=some 1 then pure (.dQ e (<-cO x)) else none
  |.slice e,.string=>do
   let .int .u8 <-E.mr e|none
   pure (.dw (<-cO x))
  |_,_=>none
 |.makeInterface t x=>do
  match <-E.mr t with
  |.interface _=>none
  |_=>pure (.eP t (<-cO x))
 |.makeFunc (.func f) first captured=>do
  if Nat.blt f 1000000000=true then pure (.iu f (<-Zd first) (<-Zd captured)) else none
 |.makeMap _ none=>some .mkMap
 |.makeSlice t l c=>do
  let .slice elem <-E.mr t|none
  let z <-lG E elem
  let i <-E.info elem
  pure (.mkSlice elem z.1 i.bytes (<-cO l) (<-cO c))
 |.slice t x lo hi mx=>do
  match <-E.mr t with
  |.string=>if mx.isSome then none else pure (.nk (<-cO x) (<-zA lo) (<-zA hi))
  |.slice elem=>pure (.qR elem (<-E.size elem) (<-cO x) (<-zA lo) (<-zA hi) (<-zA mx))
  |.array n elem=>if mx.isSome then none else pure (.ox n (<-E.size elem) (<-cO x) (<-zA lo) (<-zA hi))
  |_=>none
 |.fieldAddr s x f=>do
  let .struct fields <-E.mr s|none
  let fd <-fields[f]?
  let n <-E.size fd.type
  if n=0 then none else pure (.dh fd.offset (<-cO x))
 |.field s x f=>do
  let .struct fields <-E.mr s|none
  let fd <-fields[f]?
  if <-iV E fd.type then pure (.mY fd.offset (<-E.size fd.type) (<-cO x)) else pure (.lV fd.offset (<-cO x))
 |.indexAddr t x i=>do
  match <-E.mr t with
  |.array len elem=>pure (.nR len (<-E.size elem) (<-cO x) (<-cO i))
  |.slice elem=>pure (.kz (<-E.size elem) (<-cO x) (<-cO i))
  |_=>none
 |.index t x i=>do
  match <-E.mr t with
  |.array len elem=>do
   if <-iV E elem then pure (.vN len (<-E.size elem) (<-cO x) (<-cO i)) else pure (.vM len (<-E.size elem) (<-cO x) (<-cO i))
  |.string=>pure (.kh (<-cO x) (<-cO i))
  |_=>none
 |.lookup t x i ok=>do
  let .map _ elem <-E.mr t|none
  pure (.lookup (<-M8 E t) (<-zeroV E elem) (<-cO x) (<-cO i) ok)
 |.range t x=>do
  let .map _ _ <-E.mr t|none
  pure (.range (<-cO x))
 |.next it false=>do pure (.next (<-cO it))
 |.entry it=>do pure (.entry (<-cO it))
 |.typeAssert x _ t ok=>do
  match <-E.mr t with
  |.interface _=>none
  |_=>pure (.assert t (<-zeroV E t) ok (<-cO x))
 |.extract x i=>do pure (.extract i (<-cO x))
 |.call c=>match c.callee with
  |.builtin b=>mD E b c.args.toList c.argTypes
  |.value f=>do pure (.call (<-cO f) (<-Zd c.args))
  |.invoke r name=>do pure (.invoke (<-cO r) name (<-Zd c.args))
 |_=>none
def gi (nt:Nat)(ops:Array Oper)(o:Oper):Option aQ:=do
 let op:=(iJ E o.op).getD .bad
 if o.dst.all (λd=>Nat.blt d nt) then
   match o.guard with
   |none=>pure ⟨o.dst,none,op⟩
   |some (j,want)=>do
    let oj <-ops[j]?
    let s <-oj.dst
    pure ⟨o.dst,some (s,want),op⟩
 else none
def lR:dS->Cls
 |.mv _|.pick ..|.build ..|.nilCheck _|.bin ..|.not _|.neg _|.px ..|.uc _|.eP ..|.iu ..|.nk ..|.ox ..|.dh ..|.lV ..|.mY ..
 |.nR ..|.kz ..|.vM ..|.vN ..|.kh ..|.assert ..|.extract ..|.fk ..|.dR _|.len (.len _) _|.len .str _|.len .slice _=>.pure
 |.qR ..|.ct _|.fJ ..|.lookup ..|.entry _|.len .map _|.dw _=>.read
 |.box ..|.buildSlice ..|.mkSlice ..|.mkMap|.dQ ..=>.new
 |_=>.wr
def dS.cU:dS->List au
 |.mv x|.box _ x|.ct x|.fJ _ x|.nilCheck x|.not x|.neg x|.px _ x|.uc x|.dQ _ x|.dw x|.eP _ x|.dh _ x|.lV _ x|.mY _ _ x
 |.range x|.next x|.entry x|.assert _ _ _ x|.extract _ x|.len _ x|.dR x=>[x]
 |.pick c a b=>[c,a,b]
 |.build _ ps|.buildSlice _ _ _ ps=>ps.map (·.2.2)
 |.store _ a v=>[a,v]
 |.bin _ _ x y|.nR _ _ x y|.kz _ x y|.vM _ _ x y|.vN _ _ x y|.kh x y|.lookup _ _ x y _|.mapEntry _ _ x y|.append _ _ x y|.copy _ x y|.eF _ x y|.mkSlice _ _ _ x y=>[x,y]
 |.iu _ a c=>a++c
 |.mkMap|.bad=>[]
 |.nk x lo hi|.ox _ _ x lo hi=>x :: (lo.toList++hi.toList)
 |.qR _ _ x lo hi mx=>x :: (lo.toList++(hi.toList++mx.toList))
 |.fj _ x y z|.entryStore x y z=>[x,y,z]
 |.fk _ l=>l
 |.call f l=>f :: l
 |.invoke r _ l=>r :: l
def au.adx:au->List Nat
 |.t s=>[s]
 |.c _=>[]
def aQ.looks (o:aQ):List Nat :=
 (match o.guard with
  |some (s,_)=>[s]
  |none=>[])++o.op.cU.flatMap au.adx
def EV (cops:List aQ)(pre:Array Nat):Bool :=
 let l:=cops.zipIdx
 (l.all λ(o,i)=>l.all λ(p,j)=>Nat.beq i j || o.dst.isNone || o.dst != p.dst) &&
 (l.all λ(o,j)=>o.looks.all λt=>l.all λ(p,i)=>p.dst != some t || (pre.getD j 0).testBit i || ((pre.getD i 0).testBit j && lR o.op != .read))
def steps (pre:Array Nat)(cops:List aQ)(n:Nat):List Nat->Nat->Nat->Nat->List (Nat×aQ)->Option (List aP)
 |[],done,_,_,_=>if done=2 ^ n-1 then some [] else none
 |j :: rest,done,nw,w,reads=>do
  let o <-cops[j]?
  let p:=pre.getD j 0
  if done.testBit j || p &&& done != p then none else
  match lR o.op with
  |.pure=>do
   let l <-steps pre cops n rest (done ||| 2 ^ j) nw w reads
   pure (⟨o,j,.pure,[]⟩ :: l)
  |.read=>do
   if nw &&& p != nw then none else
   let l <-steps pre cops n rest (done ||| 2 ^ j) nw w ((j,o) :: reads)
   pure (⟨o,j,.read,[]⟩ :: l)
  |.new=>do
   let l <-steps pre cops n rest (done ||| 2 ^ j) (nw ||| 2 ^ j) w reads
   pure (⟨o,j,.new,[]⟩ :: l)
  |.wr=>do
   if nw &&& p != nw then none else
   let l <-steps pre cops n rest (done ||| 2 ^ j) (nw ||| 2 ^ j) (w ||| 2 ^ j) reads
   pure (⟨o,j,.wr,(reads.filter λr=>!p.testBit r.1).map (·.2)⟩ :: l)
def qi (nt:Nat)(ops:Array Oper)(ma:List Nat):Option ax:=do
 let cops <-ops.toList.mapM (gi E nt ops)
 let pre:=Region.before ops
 if EV cops pre then do
   let l <-steps pre cops ops.size ma 0 0 0 []
   pure (.drawn ops.size l)
 else none
def sT:ax:=.region [⟨none,none,.bad⟩]
def bR (nt:Nat)(dy:List (Nat×List Nat)):Code->Option ax
 |.skip=>some .skip
 |.region id ops draw =>
  if draw then
    match dy.find? (λp=>Nat.beq p.1 id) with
    |some (_,ma)=>some ((qi E nt ops ma).getD sT)
    |none=>some sT
  else do
   let l <-ops.toList.mapM (gi E nt ops)
   pure (.region l)
 |.seq a b=>do pure (.seq (<-bR nt dy a) (<-bR nt dy b))
 |.cond c a b=>do pure (.cond (<-cO c) (<-bR nt dy a) (<-bR nt dy b))
 |.block id body=>do pure (.block id (<-bR nt dy body))
 |.loop body=>do pure (.loop (<-bR nt dy body))
 |.exit id=>some (.exit id)
 |.scope body=>bR nt dy body
 |.label _=>some .skip
 |.ret=>some .ret
 |_=>some sT
end compile
section elim
variable{β:Type}
def bK (v:ae)(k:Bool->Option β):Option β:=@ae.casesOn (λ_=>Option β) v (λb=>k b) (λ_ _=>none) (λ_=>none) none (λ_ _=>none) none (λ_ _ _ _ _=>none) none (λ_=>none) (λ_ _ _=>none) none (λ_ _=>none) none (λ_=>none) (λ_=>none)
def jr (v:ae)(k:IntKind->Int->Option β):Option β:=@ae.casesOn (λ_=>Option β) v (λ_=>none) (λa b=>k a b) (λ_=>none) none (λ_ _=>none) none (λ_ _ _ _ _=>none) none (λ_=>none) (λ_ _ _=>none) none (λ_ _=>none) none (λ_=>none) (λ_=>none)
def kH (v:ae)(k:List Nat->Option β):Option β:=@ae.casesOn (λ_=>Option β) v (λ_=>none) (λ_ _=>none) (λs=>k s) none (λ_ _=>none) none (λ_ _ _ _ _=>none) none (λ_=>none) (λ_ _ _=>none) none (λ_ _=>none) none (λ_=>none) (λ_=>none)
def gu (v:ae)(k:Nat->Nat->Option β):Option β:=@ae.casesOn (λ_=>Option β) v (λ_=>none) (λ_ _=>none) (λ_=>none) none (λb o=>k b o) none (λ_ _ _ _ _=>none) none (λ_=>none) (λ_ _ _=>none) none (λ_ _=>none) none (λ_=>none) (λ_=>none)
def gR (v:ae)(z:Option β)(k:Nat->Nat->Nat->Nat->Bool->Option β):Option β:=@ae.casesOn (λ_=>Option β) v (λ_=>none) (λ_ _=>none) (λ_=>none) none (λ_ _=>none) z (λb o n c e=>k b o n c e) none (λ_=>none) (λ_ _ _=>none) none (λ_ _=>none) none (λ_=>none) (λ_=>none)
def ss (v:ae)(z:Option β)(k:Nat->Option β):Option β:=@ae.casesOn (λ_=>Option β) v (λ_=>none) (λ_ _=>none) (λ_=>none) none (λ_ _=>none) none (λ_ _ _ _ _=>none) z (λr=>k r) (λ_ _ _=>none) none (λ_ _=>none) none (λ_=>none) (λ_=>none)
def A5 (v:ae)(k:FuncId->List ae->List ae->Option β):Option β:=@ae.casesOn (λ_=>Option β) v (λ_=>none) (λ_ _=>none) (λ_=>none) none (λ_ _=>none) none (λ_ _ _ _ _=>none) none (λ_=>none) (λf a c=>k f a c) none (λ_ _=>none) none (λ_=>none) (λ_=>none)
def s6 (v:ae)(z:Option β)(k:TypeId->ae->Option β):Option β:=@ae.casesOn (λ_=>Option β) v (λ_=>none) (λ_ _=>none) (λ_=>none) none (λ_ _=>none) none (λ_ _ _ _ _=>none) none (λ_=>none) (λ_ _ _=>none) none (λt w=>k t w) z (λ_=>none) (λ_=>none)
def jH (v:ae)(k:List ae->Option β):Option β:=@ae.casesOn (λ_=>Option β) v (λ_=>none) (λ_ _=>none) (λ_=>none) none (λ_ _=>none) none (λ_ _ _ _ _=>none) none (λ_=>none) (λ_ _ _=>none) none (λ_ _=>none) none (λl=>k l) (λ_=>none)
def A6 (v:ae)(k:List ae->Option β):Option β:=@ae.casesOn (λ_=>Option β) v (λ_=>none) (λ_ _=>none) (λ_=>none) none (λ_ _=>none) none (λ_ _ _ _ _=>none) none (λ_=>none) (λ_ _ _=>none) none (λ_ _=>none) none (λ_=>none) (λl=>k l)
def js (v:ae)(k:Nat->Option β):Option β:=jr v λ_ n=>@Int.rec (λ_=>Option β) (λm=>k m) (λ_=>none) n
def fM (v:ae)(k:List ae->Option β):Option β:=@ae.casesOn (λ_=>Option β) v (λ_=>k [v]) (λ_ _=>k [v]) (λ_=>k [v]) (k [v]) (λ_ _=>k [v]) (k [v]) (λ_ _ _ _ _=>k [v]) (k [v]) (λ_=>k [v]) (λ_ _ _=>k [v]) (k [v]) (λ_ _=>k [v]) (k [v]) (λl=>k l) (λ_=>none)
def onCells (o:Option aE)(k:List ae->TypeId->Option β):Option β:=ob o λo=>@aE.casesOn (λ_=>Option β) o (λc e=>k c e) (λ_ _=>none) (λ_ _=>none) (λ_ _ _ _=>none) none
def eJ (o:Option aE)(k:List ae->TypeId->Bool->Option β):Option β:=ob o λo=>@aE.casesOn (λ_=>Option β) o (λc e=>k c e true) (λc e=>k c e false) (λ_ _=>none) (λ_ _ _ _=>none) none
def jb (o:Option aE)(k:List (ae×ae×Nat)->Nat->Option β):Option β:=ob o λo=>@aE.casesOn (λ_=>Option β) o (λ_ _=>none) (λ_ _=>none) (λes c=>k es c) (λ_ _ _ _=>none) none
def zb (o:Option aE)(k:Option Nat->Nat->List Nat->Nat->Option β):Option β:=ob o λo=>@aE.casesOn (λ_=>Option β) o (λ_ _=>none) (λ_ _=>none) (λ_ _=>none) (λm s l t=>k m s l t) none
end elim
section lists
variable{α:Type}
def cJ (l:List α):Nat:=@List.rec α (λ_=>Nat) 0 (λ_ _ ih=>Nat.succ ih) l
def fW (l:List α):Nat->Option α:=@List.rec α (λ_=>Nat->Option α) (λ_=>none) (λa _ ih i=>@Nat.rec (λ_=>Option α) (some a) (λj _=>ih j) i) l
def bG (n:Nat):List α->List α:=@Nat.rec (λ_=>List α->List α) (λl=>l) (λ_ ih l=>@List.rec α (λ_=>List α) [] (λ_ l _=>ih l) l) n
def bD (n:Nat):List α->List α:=@Nat.rec (λ_=>List α->List α) (λ_=>[]) (λ_ ih l=>@List.rec α (λ_=>List α) [] (λa l _=>a :: ih l) l) n
def gd (a b:List α):List α:=@List.rec α (λ_=>List α) b (λx _ ih=>x :: ih) a
def T3 {γ:Type}(f:α->γ)(l:List α):List γ:=@List.rec α (λ_=>List γ) [] (λx _ ih=>f x :: ih) l
def og (vs:List α):List α->List α:=@List.rec α (λ_=>List α->List α) (λl=>l) (λv _ ih l=>@List.rec α (λ_=>List α) [] (λ_ l _=>v :: ih l) l) vs
def over (l:List α)(n:Nat)(vs:List α):List α:=@Nat.rec (λ_=>List α->List α) (λl=>og vs l) (λ_ ih l=>@List.rec α (λ_=>List α) [] (λa l _=>a :: ih l) l) n l
def sy (n:Nat)(z:List α):List α:=@Nat.rec (λ_=>List α) [] (λ_ ih=>gd z ih) n
end lists
def aJ (x:au)(fr:Fr):ae:=@au.rec (λ_=>ae) (λs=>@Option.rec ae (λ_=>ae) aT (λv=>v) (fr.get s)) (λv=>v) x
def jw (l:List au)(fr:Fr):List ae:=T3 (aJ · fr) l
def jE (x:Option au)(fr:Fr):Option ae:=ob x λx=>some (aJ x fr)
def iT (ps:List (Nat×Nat×ae)):List ae->Option (List ae) :=
 @List.rec (Nat×Nat×ae) (λ_=>List ae->Option (List ae)) (λcells=>some cells)
  (λp _ ih cells=>fM p.2.2 λc=>aO (and (Nat.beq (cJ c) p.2.1) (Nat.ble (Nat.add p.1 p.2.1) (cJ cells))) (ih (over cells p.1 c)) none) ps
def eqStr (a:List Nat):List Nat->Bool :=
 @List.rec Nat (λ_=>List Nat->Bool) (λb=>@List.rec Nat (λ_=>Bool) true (λ_ _ _=>false) b)
  (λx _ ih b=>@List.rec Nat (λ_=>Bool) false (λy b _=>aO (Nat.beq x y) (ih b) false) b) a
def ltStr (a:List Nat):List Nat->Bool :=
 @List.rec Nat (λ_=>List Nat->Bool) (λb=>@List.rec Nat (λ_=>Bool) false (λ_ _ _=>true) b)
  (λx _ ih b=>@List.rec Nat (λ_=>Bool) false (λy b _=>aO (Nat.blt x y) true (aO (Nat.beq x y) (ih b) false)) b) a
def NI (a b:Int):Bool:=@Int.rec (λ_=>Bool) (λx=>@Int.rec (λ_=>Bool) (λy=>Nat.beq x y) (λ_=>false) b) (λx=>@Int.rec (λ_=>Bool) (λ_=>false) (λy=>Nat.beq x y) b) a
def Km (a b:Int):Bool:=@Int.rec (λ_=>Bool) (λx=>@Int.rec (λ_=>Bool) (λy=>Nat.blt x y) (λ_=>false) b) (λx=>@Int.rec (λ_=>Bool) (λ_=>true) (λy=>Nat.blt y x) b) a
def yu (a b:Nat):Int:=aO (Nat.ble b a) (.ofNat (Nat.sub a b)) (.negSucc (Nat.sub (Nat.sub b a) 1))
def V0 (a b:Int):Int:=@Int.rec (λ_=>Int) (λx=>@Int.rec (λ_=>Int) (λy=>.ofNat (Nat.add x y)) (λy=>yu x (Nat.succ y)) b) (λx=>@Int.rec (λ_=>Int) (λy=>yu y (Nat.succ x)) (λy=>.negSucc (Nat.succ (Nat.add x y))) b) a
def acK (b:Int):Int:=@Int.rec (λ_=>Int) (λy=>yu 0 y) (λy=>.ofNat (Nat.succ y)) b
def YG (a b:Int):Int:=V0 a (acK b)
def NJ (a b:IntKind):Bool:=Nat.beq a.ctorIdx b.ctorIdx
def jt (k:IntKind)(n:Int):Int :=
 @Int.rec (λ_=>Int)
  (λm=>@IntKind.rec (λ_=>Int) (aO (Nat.blt m 128) (.ofNat m) (k.wrap n)) (aO (Nat.blt m 32768) (.ofNat m) (k.wrap n)) (aO (Nat.blt m 2147483648) (.ofNat m) (k.wrap n)) (aO (Nat.blt m 9223372036854775808) (.ofNat m) (k.wrap n)) (.ofNat (Nat.mod m 256)) (.ofNat (Nat.mod m 65536)) (.ofNat (Nat.mod m 4294967296)) (.ofNat (Nat.mod m 18446744073709551616)) k)
  (λm=>@IntKind.rec (λ_=>Int) (aO (Nat.blt m 128) (.negSucc m) (k.wrap n)) (aO (Nat.blt m 32768) (.negSucc m) (k.wrap n)) (aO (Nat.blt m 2147483648) (.negSucc m) (k.wrap n)) (aO (Nat.blt m 9223372036854775808) (.negSucc m) (k.wrap n)) (k.wrap n) (k.wrap n) (k.wrap n) (k.wrap n) k) n
def jM (k:FK)(x y:ae):Option Bool :=
 @FK.rec (λ_=>Option Bool) (bK x λa=>bK y λb=>some (aO a b (not b))) (jr x λk a=>jr y λk' b=>aO (NJ k k') (some (NI a b)) none)
  (kH x λa=>kH y λb=>some (eqStr a b)) k
def sW (a b:List ae)(eU:List (Nat×FK)):Option Bool :=
 @List.rec (Nat×FK) (λ_=>Option Bool) (some true) (λo _ ih=>ob (fW a o.1) λx=>ob (fW b o.1) λy=>ob (jM o.2 x y) λt=>aO t ih (some false)) eU
def Dt (q:iH)(x y:ae):Option Bool :=
 @iH.rec (λ_=>Option Bool) (λk=>jM k x y) (λeU=>jH x λa=>jH y λb=>sW a b eU) q
def kg (op:BinOp)(k:IntKind)(a b:Int):Option ae :=
 @BinOp.rec (λ_=>IntKind->Int->Int->Option ae)
  (λk a b=>some (.int k (jt k (V0 a b))))
  (λk a b=>some (.int k (jt k (YG a b))))
  (λk a b=>some (.int k (jt k (a*b))))
  (λk a b=>aO (NI b 0) none (some (.int k (jt k (a.tdiv b)))))
  (λk a b=>aO (NI b 0) none (some (.int k (a.tmod b))))
  (λk a b=>@Int.rec (λ_=>Option ae) (λx=>@Int.rec (λ_=>Option ae) (λy=>some (.int k (jt k (.ofNat (Nat.land x y))))) (λ_=>none) b) (λ_=>none) a)
  (λk a b=>@Int.rec (λ_=>Option ae) (λx=>@Int.rec (λ_=>Option ae) (λy=>some (.int k (jt k (.ofNat (Nat.lor x y))))) (λ_=>none) b) (λ_=>none) a)
  (λk a b=>@Int.rec (λ_=>Option ae) (λx=>@Int.rec (λ_=>Option ae) (λy=>some (.int k (jt k (.ofNat (Nat.xor x y))))) (λ_=>none) b) (λ_=>none) a)
  (λ_ _ _=>none) (λ_ _ _=>none) (λ_ _ _=>none)
  (λ_ a b=>some (.bool (NI a b)))
  (λ_ a b=>some (.bool (not (NI a b))))
  (λ_ a b=>some (.bool (Km a b)))
  (λ_ a b=>some (.bool (not (Km b a))))
  (λ_ a b=>some (.bool (Km b a)))
  (λ_ a b=>some (.bool (not (Km a b)))) op k a b
def ET (op:BinOp)(a b:List Nat):Option ae :=
 @BinOp.rec (λ_=>List Nat->List Nat->Option ae)
  (λa b=>aO (Nat.ble (Nat.add (cJ a) (cJ b)) 1073741824) (some (.str (gd a b))) none) (λ_ _=>none) (λ_ _=>none) (λ_ _=>none) (λ_ _=>none) (λ_ _=>none) (λ_ _=>none) (λ_ _=>none) (λ_ _=>none) (λ_ _=>none) (λ_ _=>none)
  (λa b=>some (.bool (eqStr a b)))
  (λa b=>some (.bool (not (eqStr a b))))
  (λa b=>some (.bool (ltStr a b)))
  (λa b=>some (.bool (or (ltStr a b) (eqStr a b))))
  (λa b=>some (.bool (not (or (ltStr a b) (eqStr a b)))))
  (λa b=>some (.bool (not (ltStr a b)))) op a b
def lS (q:yv)(x y:ae):Option Bool :=
 match q,x,y with
 |.ptr,.dt,.dt=>some true
 |.ptr,.ptr b o,.ptr b' o'=>bif Nat.beq b b' then some (Nat.beq o o') else none
 |.ptr,.dt,.ptr _ _=>some false
 |.ptr,.ptr _ _,.dt=>some false
 |.slice,.af,.af=>some true
 |.slice,.af,.slice ..=>some false
 |.slice,.slice ..,.af=>some false
 |.map,.b8,.b8=>some true
 |.map,.b8,.map _=>some false
 |.map,.map _,.b8=>some false
 |.iface _,.dq,.iface ..=>some false
 |.iface _,.iface ..,.dq=>some false
 |.iface true,.dq,.dq=>some true
 |.func,.fb,.fb=>some true
 |.func,.fb,.func ..=>some false
 |.func,.func ..,.fb=>some false
 |.bool,.bool a,.bool b=>some (aO a b (not b))
 |.agg eU,.agg a,.agg b=>sW a b eU
 |_,_,_=>none
def ug (op:BinOp)(q:yv)(x y:ae):Option ae :=
 match op with
 |.eql=>(lS q x y).map .bool
 |.neq=>(lS q x y).map λt=>.bool (!t)
 |_=>none
def YC (op:BinOp)(k:IntKind)(a b:Int):Option (Option ae) :=
 match op with
 |.shl=>some (if b<0 then none else some (.int k (jt k (a*2 ^ (min b.toNat k.bits)))))
 |.shr=>some (if b<0 then none else some (.int k (a.fdiv (2 ^ (min b.toNat k.bits)))))
 |_=>none
def acA (op:BinOp):Bool:=or (Nat.beq op.ctorIdx 8) (Nat.beq op.ctorIdx 9)
def kZ (op:BinOp)(q:yv)(x y:ae):Option ae :=
 @ae.casesOn (λ_=>Option ae) x (λ_=>ug op q x y)
  (λk a=>jr y λk' b=>aO (acA op) (ob (YC op k a b) λr=>r) (aO (NJ k k') (kg op k a b) none))
  (λs=>kH y λs'=>ET op s s') (ug op q x y) (λ_ _=>ug op q x y) (ug op q x y) (λ_ _ _ _ _=>ug op q x y) (ug op q x y) (λ_=>ug op q x y) (λ_ _ _=>ug op q x y) (ug op q x y) (λ_ _=>ug op q x y) (ug op q x y) (λ_=>ug op q x y) (λ_=>ug op q x y)
def eD (l:List ae):Option (List Nat) :=
 @List.rec ae (λ_=>Option (List Nat)) (some []) (λv _ ih=>jr v λk n=>aO (NJ k .u8) (@Int.rec (λ_=>Option (List Nat)) (λm=>aO (Nat.blt m 256) (ob ih λl=>some (m :: l)) none) (λ_=>none) n) none) l
def ofBytes (s:List Nat):List ae:=T3 (λn=>.int .u8 (.ofNat n)) s
def dA (x:Option ae)(ajr y:Nat):Option Nat :=
 @Option.rec ae (λ_=>Option Nat) (some ajr) (λv=>js v λi=>aO (Nat.ble i y) (some i) none) x
def fZ (q:iH)(k:ae)(es:List (ae×ae×Nat)):Nat->Option (Option (Nat×ae)) :=
 @List.rec (ae×ae×Nat) (λ_=>Nat->Option (Option (Nat×ae))) (λ_=>some none)
  (λe _ ih i=>ob (Dt q k e.1) λt=>aO t (some (some (i,e.2.1))) (ih (Nat.succ i))) es
def Dl (l:List ae)(eU:List (Nat×FK)):Bool:=@List.rec (Nat×FK) (λ_=>Bool) true (λo _ ih=>@Option.rec ae (λ_=>Bool) false (λ_=>ih) (fW l o.1)) eU
def nT (q:iH)(k:ae):Bool:=@iH.rec (λ_=>Bool) (λ_=>true) (λeU=>@ae.casesOn (λ_=>Bool) k (λ_=>false) (λ_ _=>false) (λ_=>false) false (λ_ _=>false) false (λ_ _ _ _ _=>false) false (λ_=>false) (λ_ _ _=>false) false (λ_ _=>false) false (λl=>Dl l eU) (λ_=>false)) q
def HV (x y:ae):Option Bool:=@ae.casesOn (λ_=>Option Bool) x (λ_=>jM .b x y) (λ_ _=>jM .i x y) (λ_=>jM .s x y) none (λ_ _=>none) none (λ_ _ _ _ _=>none) none (λ_=>none) (λ_ _ _=>none) none (λ_ _=>none) none (λ_=>none) (λ_=>none)
def Bj (a:List ae):List ae->Bool :=
 @List.rec ae (λ_=>List ae->Bool) (λb=>@List.rec ae (λ_=>Bool) true (λ_ _ _=>false) b)
  (λx _ ih b=>@List.rec ae (λ_=>Bool) false (λy b _=>@Option.rec Bool (λ_=>Bool) false (λt=>aO t (ih b) false) (HV x y)) b) a
def stays (q:iH)(fL new:ae):Bool:=@iH.rec (λ_=>Bool) (λ_=>true) (λ_=>@Option.rec Bool (λ_=>Bool) false (λt=>t) (jH fL λa=>jH new λb=>some (Bj a b))) q
def fS (h:aa)(size:Nat)(x:ae):Option (Nat×List ae) :=
 match x with
 |.str s=>aO (Nat.beq size 1) (some (cJ s,ofBytes s)) none
 |x=>gR x (some (0,[])) λb o n _ _=>eJ (h.get b) λc _ own=>aO (and (Nat.ble (Nat.add o (Nat.mul n size)) (cJ c)) (yk own (bD (Nat.mul n size) (bG o c)))) (some (n,bD (Nat.mul n size) (bG o c))) none
def xo {α:Type}(f:α->α)(l:List α):Nat->List α:=@List.rec α (λ_=>Nat->List α) (λ_=>[]) (λa l ih i=>@Nat.rec (λ_=>List α) (f a :: l) (λj _=>a :: ih j) i) l
def TK (v:ae):Bool:=@ae.casesOn (λ_=>Bool) v (λ_=>false) (λ_ _=>false) (λ_=>false) true (λ_ _=>false) false (λ_ _ _ _ _=>false) false (λ_=>false) (λ_ _ _=>false) false (λ_ _=>false) false (λ_=>false) (λ_=>false)
namespace I
def mv (x:au)(fr:Fr)(h:aa):R:=some (aJ x fr,h)
def pick (c a b:au)(fr:Fr)(h:aa):R:=bK (aJ c fr) λt=>some (aO t (aJ a fr) (aJ b fr),h)
def box (t:TypeId)(x:au)(fr:Fr)(h:aa):R:=fM (aJ x fr) λc=>some (.ptr h.next 0,h.push (.cells c t))
def fE (ps:List (Nat×Nat×au))(fr:Fr):List (Nat×Nat×ae):=T3 (λp=>(p.1,p.2.1,aJ p.2.2 fr)) ps
def build (z:List ae)(ps:List (Nat×Nat×au))(fr:Fr)(h:aa):R:=ob (iT (fE ps fr) z) λl=>some (.agg l,h)
def buildSlice (e:TypeId)(len:Nat)(z:List ae)(ps:List (Nat×Nat×au))(fr:Fr)(h:aa):R :=
 ob (iT (fE ps fr) (sy len z)) λl=>some (.slice h.next 0 len len true,h.push (.cells l e))
def ct (x:au)(fr:Fr)(h:aa):R:=gu (aJ x fr) λb o=>eJ (h.get b) λc _ own=>ob (fW c o) λv=>aO (HG own v) (some (v,h)) none
def fJ (n:Nat)(x:au)(fr:Fr)(h:aa):R:=gu (aJ x fr) λb o=>eJ (h.get b) λc _ own=>aO (and (Nat.ble (Nat.add o n) (cJ c)) (yk own (bD n (bG o c)))) (some (.agg (bD n (bG o c)),h)) none
def store (n:Nat)(a v:au)(fr:Fr)(h:aa):R:=gu (aJ a fr) λb o=>onCells (h.get b) λc e=>fM (aJ v fr) λvs =>
 aO (and (Nat.beq (cJ vs) n) (Nat.ble (Nat.add o n) (cJ c))) (some (aT,h.put b (.cells (over c o vs) e))) none
def nilCheck (x:au)(fr:Fr)(h:aa):R :=
 match aJ x fr with
 |.ptr b o=>some (.ptr b o,h)
 |.func f a c=>some (.func f a c,h)
 |.iface t v=>some (.iface t v,h)
 |_=>none
def bin (op:BinOp)(q:yv)(x y:au)(fr:Fr)(h:aa):R:=ob (kZ op q (aJ x fr) (aJ y fr)) λv=>some (v,h)
def not (x:au)(fr:Fr)(h:aa):R:=bK (aJ x fr) λb=>some (.bool (Bool.not b),h)
def neg (x:au)(fr:Fr)(h:aa):R:=jr (aJ x fr) λk n=>some (.int k (jt k (acK n)),h)
def px (k:IntKind)(x:au)(fr:Fr)(h:aa):R:=jr (aJ x fr) λ_ n=>some (.int k (jt k n),h)
def uc (x:au)(fr:Fr)(h:aa):R:=kH (aJ x fr) λs=>some (.str s,h)
def dQ (e:TypeId)(x:au)(fr:Fr)(h:aa):R:=kH (aJ x fr) λs=>some (.slice h.next 0 (cJ s) (cJ s) false,h.push (.cells (ofBytes s) e))
def dw (x:au)(fr:Fr)(h:aa):R:=gR (aJ x fr) (some (.str [],h)) λb o n _ _=>eJ (h.get b) λc _ _ =>
 aO (Nat.ble (Nat.add o n) (cJ c)) (ob (eD (bD n (bG o c))) λl=>some (.str l,h)) none
def eP (t:TypeId)(x:au)(fr:Fr)(h:aa):R:=some (.iface t (aJ x fr),h)
def iu (f:FuncId)(a c:List au)(fr:Fr)(h:aa):R:=some (.func f (jw a fr) (jw c fr),h)
def mkMap (_:Fr)(h:aa):R:=some (.map h.next,h.push (.map [] 0))
def mkSlice (e:TypeId)(z:List ae)(P':Nat)(l c:au)(fr:Fr)(h:aa):R:=js (aJ l fr) λl=>js (aJ c fr) λc =>
 aO (and (Nat.ble l c) (and (Nat.ble (Nat.mul c P') 1073741824) (Nat.ble c 1073741824))) (some (.slice h.next 0 l c true,h.push (.cells (sy c z) e))) none
def nk (x:au)(lo hi:Option au)(fr:Fr)(h:aa):R:=kH (aJ x fr) λs=>ob (dA (jE hi fr) (cJ s) (cJ s)) λu=>ob (dA (jE lo fr) 0 u) λl=>some (.str (bG l (bD u s)),h)
def qR (elem:TypeId)(size:Nat)(x:au)(lo hi mx:Option au)(fr:Fr)(h:aa):R :=
 aO (and mx.isSome hi.isNone) none
 (gR (aJ x fr)
  (ob (dA (jE mx fr) 0 0) λm=>ob (dA (jE hi fr) 0 m) λu=>ob (dA (jE lo fr) 0 u) λ_=>some (.af,h))
  λb o n c ex=>ob (dA (jE mx fr) c c) λm=>ob (dA (jE hi fr) n m) λu=>ob (dA (jE lo fr) 0 u) λl =>
   ob (aO (or (or ex mx.isSome) (Nat.beq l 0)) (some true) (eJ (h.get b) λ_ e _=>aO (Nat.beq e elem) (some true) none)) λ_ =>
   some (.slice b (Nat.add o (Nat.mul l size)) (Nat.sub u l) (Nat.sub m l) (or ex mx.isSome),h))
def ox (n size:Nat)(x:au)(lo hi:Option au)(fr:Fr)(h:aa):R:=gu (aJ x fr) λb o=>ob (dA (jE hi fr) n n) λu=>ob (dA (jE lo fr) 0 u) λl =>
 some (.slice b (Nat.add o (Nat.mul l size)) (Nat.sub u l) (Nat.sub n l) true,h)
def dh (off:Nat)(x:au)(fr:Fr)(h:aa):R:=gu (aJ x fr) λb o=>some (.ptr b (Nat.add o off),h)
def lV (off:Nat)(x:au)(fr:Fr)(h:aa):R:=jH (aJ x fr) λl=>ob (fW l off) λv=>some (v,h)
def mY (off n:Nat)(x:au)(fr:Fr)(h:aa):R:=jH (aJ x fr) λl=>some (.agg (bD n (bG off l)),h)
def nR (len size:Nat)(x i:au)(fr:Fr)(h:aa):R:=gu (aJ x fr) λb o=>js (aJ i fr) λi=>aO (Nat.blt i len) (some (.ptr b (Nat.add o (Nat.mul i size)),h)) none
def kz (size:Nat)(x i:au)(fr:Fr)(h:aa):R:=gR (aJ x fr) none λb o n _ _=>js (aJ i fr) λi=>aO (Nat.blt i n) (some (.ptr b (Nat.add o (Nat.mul i size)),h)) none
def vM (len size:Nat)(x i:au)(fr:Fr)(h:aa):R:=jH (aJ x fr) λl=>js (aJ i fr) λi=>aO (Nat.blt i len) (ob (fW l (Nat.mul i size)) λv=>some (v,h)) none
def vN (len size:Nat)(x i:au)(fr:Fr)(h:aa):R:=jH (aJ x fr) λl=>js (aJ i fr) λi=>aO (Nat.blt i len) (some (.agg (bD size (bG (Nat.mul i size) l)),h)) none
def kh (x i:au)(fr:Fr)(h:aa):R:=kH (aJ x fr) λs=>js (aJ i fr) λi=>ob (fW s i) λb=>some (.int .u8 (.ofNat b),h)
def lookup (q:iH)(z:ae)(x k:au)(ok:Bool)(fr:Fr)(h:aa):R :=
 ob (ss (aJ x fr) (some []) λr=>jb (h.get r) λes _=>some es) λes=>aO (nT q (aJ k fr)) (ob (fZ q (aJ k fr) es 0) λr =>
   @Option.rec (Nat×ae) (λ_=>R) (some (aO ok (.eC [z,.bool false]) z,h)) (λp=>some (aO ok (.eC [p.2,.bool true]) p.2,h)) r) none
def fj (q:iH)(m k v:au)(fr:Fr)(h:aa):R:=ss (aJ m fr) none λr=>jb (h.get r) λes clock=>aO (nT q (aJ k fr)) (ob (fZ q (aJ k fr) es 0) λi =>
 @Option.rec (Nat×ae) (λ_=>R) (some (aT,h.put r (.map (gd es [(aJ k fr,aJ v fr,clock)]) (Nat.succ clock))))
  (λp=>ob (fW es p.1) λe=>aO (stays q e.1 (aJ k fr)) (some (aT,h.put r (.map (xo (λe=>(aJ k fr,aJ v fr,e.2.2)) es p.1) clock))) none) i) none
def mapEntry (q:iH)(z:ae)(m k:au)(fr:Fr)(h:aa):R:=ss (aJ m fr) none λr=>jb (h.get r) λes clock=>aO (nT q (aJ k fr)) (ob (fZ q (aJ k fr) es 0) λi =>
 @Option.rec (Nat×ae) (λ_=>R) (some (.eC [z,.int .i64 (.ofNat clock)],h.put r (.map (gd es [(aJ k fr,z,clock)]) (Nat.succ clock))))
  (λp=>ob (fW es p.1) λe=>aO (stays q e.1 (aJ k fr)) (some (.eC [p.2,.int .i64 (.ofNat e.2.2)],h.put r (.map (xo (λe=>(aJ k fr,e.2.1,e.2.2)) es p.1) clock))) none) i) none
def D4 (n:Nat)(es:List (ae×ae×Nat)):Nat->Option Nat:=@List.rec (ae×ae×Nat) (λ_=>Nat->Option Nat) (λ_=>none) (λe _ ih i=>aO (Nat.beq e.2.2 n) (some i) (ih (Nat.succ i))) es
def entryStore (m s v:au)(fr:Fr)(h:aa):R:=ss (aJ m fr) none λr=>js (aJ s fr) λn=>jb (h.get r) λes clock=>ob (D4 n es 0) λi =>
 some (aT,h.put r (.map (xo (λe=>(e.1,aJ v fr,e.2.2)) es i) clock))
def range (x:au)(fr:Fr)(h:aa):R:=ss (aJ x fr) (some (.ptr h.next 0,h.push (.mapIter none 0 [] 0))) λr=>jb (h.get r) λ_ clock =>
 some (.ptr h.next 0,h.push (.mapIter (some r) clock [] clock))
def next (it:au)(fr:Fr)(h:aa):R:=gu (aJ it fr) λr o=>aO (Nat.beq o 0) (zb (h.get r) λm since seen last =>
 @Option.rec Nat (λ_=>R) (some (.eC [.bool false],h)) (λm=>jb (h.get m) λes clock =>
  bif !seen.isEmpty && !es.isEmpty && es.all (λe=>Nat.ble last e.2.2) then none else
  match es.filter λe=>!seen.contains e.2.2 with
  |[]=>some (.eC [.bool false],h)
  |[e]=>bif Nat.blt e.2.2 since then some (.eC [.bool true,e.1,e.2.1],h.put r (.mapIter (some m) since (seen++[e.2.2]) clock)) else none
  |_=>none) m) none
def entry (it:au)(fr:Fr)(h:aa):R:=gu (aJ it fr) λr o=>aO (Nat.beq o 0) (zb (h.get r) λm _ seen th =>
 ob m λm=>ob seen.getLast? λri=>jb (h.get m) λes clock =>
   aO (Nat.beq clock th) (ob (es.find? (λe=>Nat.beq e.2.2 ri)) λe=>some (.eC [e.1,e.2.1],h)) none) none
def assert (t:TypeId)(z:ae)(ok:Bool)(x:au)(fr:Fr)(h:aa):R :=
 s6 (aJ x fr) (aO ok (some (.eC [z,.bool false],h)) none) λu v=>aO (Nat.beq u t) (some (aO ok (.eC [v,.bool true]) v,h)) (aO ok (some (.eC [z,.bool false],h)) none)
def extract (i:Nat)(x:au)(fr:Fr)(h:aa):R:=A6 (aJ x fr) λl=>ob (fW l i) λv=>some (v,h)
def len (s:Src)(x:au)(fr:Fr)(h:aa):R :=
 @Src.rec (λ_=>R) (λn=>some (.int .i64 (.ofNat n),h)) (kH (aJ x fr) λs=>some (.int .i64 (.ofNat (cJ s)),h))
  (gR (aJ x fr) (some (.int .i64 (.ofNat 0),h)) λ_ _ n _ _=>some (.int .i64 (.ofNat n),h))
  (ss (aJ x fr) (some (.int .i64 (.ofNat 0),h)) λr=>jb (h.get r) λes _=>some (.int .i64 (.ofNat (cJ es)),h)) s
def append (elem:TypeId)(size:Nat)(s x:au)(fr:Fr)(h:aa):R :=
 ob (fS h size (aJ x fr)) λp=>aO (Nat.beq p.1 0) (gR (aJ s fr) (some (aJ s fr,h)) λ_ _ _ _ _=>some (aJ s fr,h)) (gR (aJ s fr) (aO (Nat.ble p.1 1073741824) (some (.slice h.next 0 p.1 p.1 false,h.push (.cells p.2 elem))) none)
   λb o len c ex=>eJ (h.get b) λfL e own=>aO (and (Nat.ble (Nat.add len p.1) 1073741824) (and (Nat.ble (Nat.add o (Nat.mul len size)) (cJ fL)) (yk own (bD (Nat.mul len size) (bG o fL)))))
    (aO ex
     (aO (Nat.ble (Nat.add len p.1) c)
      (aO (and own (Nat.ble (Nat.add o (Nat.mul (Nat.add len p.1) size)) (cJ fL))) (some (.slice b o (Nat.add len p.1) c ex,h.put b (.cells (over fL (Nat.add o (Nat.mul len size)) p.2) e))) none)
      (some (.slice h.next 0 (Nat.add len p.1) (Nat.add len p.1) false,h.push (.cells (gd (bD (Nat.mul len size) (bG o fL)) p.2) elem))))
     (aO (and own (and (Nat.beq e elem) (Nat.beq (Nat.mod o size) 0))) (some (.slice h.next 0 (Nat.add len p.1) (Nat.add len p.1) false,(h.put b .dead).push (.cells (gd (bD (Nat.mul len size) (bG o fL)) p.2) elem))) none))
    none)
def copy (size:Nat)(d x:au)(fr:Fr)(h:aa):R :=
 ob (fS h size (aJ x fr)) λp=>gR (aJ d fr) (some (.int .i64 (.ofNat 0),h)) λb o len _ _=>onCells (h.get b) λfL e =>
   aO (Nat.ble (Nat.add o (Nat.mul len size)) (cJ fL)) (some (.int .i64 (.ofNat (Nat.min p.1 len)),h.put b (.cells (over fL o (bD (Nat.mul (Nat.min p.1 len) size) p.2)) e))) none
def mW (isMax:Bool)(k:IntKind)(l:List ae):Int->Option ae :=
 @List.rec ae (λ_=>Int->Option ae) (λm=>some (.int k m)) (λv _ ih m=>jr v λ_ y=>ih (aO isMax (aO (Km m y) y m) (aO (Km y m) y m))) l
def fk (isMax:Bool)(l:List au)(fr:Fr)(h:aa):R :=
 match jw l fr with
 |x :: rest=>jr x λk x=>ob (mW isMax k rest x) λv=>some (v,h)
 |_=>none
def dR (x:au)(fr:Fr)(h:aa):R:=gR (aJ x fr) (some (.dt,h)) λb o _ c _=>aO (Nat.blt 0 c) (some (.ptr b o,h)) none
def eF (u:TypeId)(x n:au)(fr:Fr)(h:aa):R:=aO (TK (aJ x fr)) (js (aJ n fr) λn=>aO (Nat.beq n 0) (some (.str [],h)) none) <| gu (aJ x fr) λb o=>js (aJ n fr) λn=>onCells (h.get b) λc e =>
 aO (and (Nat.beq e u) (and (Nat.blt 0 n) (and (Nat.blt n 1073741824) (Nat.ble (Nat.add o n) (cJ c))))) (ob (eD (bD n (bG o c))) λl=>some (.str l,h.put b .dead)) none
end I
def aC:dS->Fr->aa->R
 |.mv x=>I.mv x
 |.pick c a b=>I.pick c a b
 |.box t x=>I.box t x
 |.build z ps=>I.build z ps
 |.buildSlice e n z ps=>I.buildSlice e n z ps
 |.ct x=>I.ct x
 |.fJ n x=>I.fJ n x
 |.store n a v=>I.store n a v
 |.nilCheck x=>I.nilCheck x
 |.bin op q x y=>I.bin op q x y
 |.not x=>I.not x
 |.neg x=>I.neg x
 |.px k x=>I.px k x
 |.uc x=>I.uc x
 |.dQ e x=>I.dQ e x
 |.dw x=>I.dw x
 |.eP t x=>I.eP t x
 |.iu f a c=>I.iu f a c
 |.mkMap=>I.mkMap
 |.mkSlice e z b l c=>I.mkSlice e z b l c
 |.nk x lo hi=>I.nk x lo hi
 |.qR e n x lo hi mx=>I.qR e n x lo hi mx
 |.ox n s x lo hi=>I.ox n s x lo hi
 |.dh o x=>I.dh o x
 |.lV o x=>I.lV o x
 |.mY o n x=>I.mY o n x
 |.nR l s x i=>I.nR l s x i
 |.kz s x i=>I.kz s x i
 |.vM l s x i=>I.vM l s x i
 |.vN l s x i=>I.vN l s x i
 |.kh x i=>I.kh x i
 |.lookup q z x k ok=>I.lookup q z x k ok
 |.fj q m k v=>I.fj q m k v
 |.mapEntry q z m k=>I.mapEntry q z m k
 |.entryStore m s v=>I.entryStore m s v
 |.range x=>I.range x
 |.next it=>I.next it
 |.entry it=>I.entry it
 |.assert t z ok x=>I.assert t z ok x
 |.extract i x=>I.extract i x
 |.len s x=>I.len s x
 |.append e n s x=>I.append e n s x
 |.copy n s x=>I.copy n s x
 |.fk m l=>I.fk m l
 |.dR x=>I.dR x
 |.eF u x n=>I.eF u x n
 |.call _ _=>λ_ _=>none
 |.invoke _ _ _=>λ_ _=>none
 |.bad=>λ_ _=>none
def Env.qD (E:Env)(t:TypeId)(name:String):Option (FuncId×Bool):=do
 let i <-E.info t
 let m <-i.methods.find? (·.name == name)
 if m.path.isEmpty then m.func else none
def sw (E:Env)(t:TypeId)(pr:Bool)(v:ae)(h:aa):Option ae :=
 match E.mr t,pr with
 |some (.pointer _),true=>some v
 |some (.pointer elem),false=>match iV E elem,E.size elem with
  |some true,some n=>gu v λb o=>eJ (h.get b) λc _ own=>aO (and (Nat.ble (Nat.add o n) (cJ c)) (yk own (bD n (bG o c)))) (some (.agg (bD n (bG o c)))) none
  |some false,_=>gu v λb o=>eJ (h.get b) λc _ own=>ob (fW c o) λv=>aO (HG own v) (some v) none
  |_,_=>none
 |some _,false=>some v
 |_,_=>none
abbrev b9:=FuncId->List ae->aa->R
def rW (ao:b9)(f:au)(args:List au)(fr:Fr)(h:aa):R :=
 A5 (aJ f fr) λf first captured=>aO (Nat.blt f 1000000000) (ao f (gd first (gd (jw args fr) captured)) h) none
def lg (E:Env)(ao:b9)(r:au)(name:String)(args:List au)(fr:Fr)(h:aa):R :=
 s6 (aJ r fr) none λt v=>ob (E.qD t name) λm=>ob (sw E t m.2 v h) λv=>ao m.1 (v :: jw args fr) h
def Pg (E:Env)(ao:b9)(o:dS):Fr->aa->R :=
 match o with
 |.call f args=>rW ao f args
 |.invoke r name args=>lg E ao r name args
 |o=>aC o
def bj (g:Option (Nat×Bool))(fr:Fr):Bool :=
 @Option.rec (Nat×Bool) (λ_=>Bool) true (λp=>@Option.rec Bool (λ_=>Bool) false (λb=>aO b p.2 (not p.2)) (ob (fr.get p.1) λv=>bK v λb=>some b)) g
def dB (d:Option Nat)(fr:Fr)(v:ae):Fr:=@Option.rec Nat (λ_=>Fr) fr (λd=>fr.set d v) d
def eA (E:Env)(ao:b9)(o:aQ)(fr:Fr)(h:aa):R:=aO (bj o.guard fr) (Pg E ao o.op fr h) (some (aT,h))
def cP (E:Env)(ao:b9)(l:List aQ):Fr->aa->Option (Fr×aa) :=
 @List.rec aQ (λ_=>Fr->aa->Option (Fr×aa)) (λfr h=>some (fr,h)) (λo _ ih fr h=>ob (eA E ao o fr h) λr=>ih (dB o.dst fr r.1) r.2) l
def tb (o:Option Bool):Bool:=@Option.rec Bool (λ_=>Bool) false (λb=>b) o
def il (f:ae->ae->Bool)(a:List ae):List ae->Bool :=
 @List.rec ae (λ_=>List ae->Bool) (λb=>@List.rec ae (λ_=>Bool) true (λ_ _ _=>false) b)
  (λx _ ih b=>@List.rec ae (λ_=>Bool) false (λy b _=>aO (f x y) (ih b) false) b) a
def TL (v:ae):Bool:=@ae.casesOn (λ_=>Bool) v (λ_=>false) (λ_ _=>false) (λ_=>false) true (λ_ _=>false) false (λ_ _ _ _ _=>false) false (λ_=>false) (λ_ _ _=>false) false (λ_ _=>false) false (λ_=>false) (λ_=>false)
def Ke (v:ae):Bool:=@ae.casesOn (λ_=>Bool) v (λ_=>false) (λ_ _=>false) (λ_=>false) false (λ_ _=>false) true (λ_ _ _ _ _=>false) false (λ_=>false) (λ_ _ _=>false) false (λ_ _=>false) false (λ_=>false) (λ_=>false)
def TJ (v:ae):Bool:=@ae.casesOn (λ_=>Bool) v (λ_=>false) (λ_ _=>false) (λ_=>false) false (λ_ _=>false) false (λ_ _ _ _ _=>false) true (λ_=>false) (λ_ _ _=>false) false (λ_ _=>false) false (λ_=>false) (λ_=>false)
def OB (v:ae):Bool:=@ae.casesOn (λ_=>Bool) v (λ_=>false) (λ_ _=>false) (λ_=>false) false (λ_ _=>false) false (λ_ _ _ _ _=>false) false (λ_=>false) (λ_ _ _=>false) true (λ_ _=>false) false (λ_=>false) (λ_=>false)
def Kd (v:ae):Bool:=@ae.casesOn (λ_=>Bool) v (λ_=>false) (λ_ _=>false) (λ_=>false) false (λ_ _=>false) false (λ_ _ _ _ _=>false) false (λ_=>false) (λ_ _ _=>false) false (λ_ _=>false) true (λ_=>false) (λ_=>false)
def dz (n:Nat):ae->ae->Bool :=
 @Nat.rec (λ_=>ae->ae->Bool) (λ_ _=>false) (λ_ ih x y=>@ae.casesOn (λ_=>Bool) x
  (λa=>tb (bK y λb=>some (aO a b (not b))))
  (λk a=>tb (jr y λk' b=>some (and (NJ k k') (NI a b))))
  (λa=>tb (kH y λb=>some (eqStr a b)))
  (TL y)
  (λb o=>tb (gu y λb' o'=>some (and (Nat.beq b b') (Nat.beq o o'))))
  (Ke y)
  (λb o n c e=>tb (gR y none λb' o' n' c' e'=>some (and (Nat.beq b b') (and (Nat.beq o o') (and (Nat.beq n n') (and (Nat.beq c c') (aO e e' (not e'))))))))
  (TJ y)
  (λr=>tb (ss y none λr'=>some (Nat.beq r r')))
  (λf a c=>tb (A5 y λf' a' c'=>some (and (Nat.beq f f') (and (il ih a a') (il ih c c')))))
  (OB y)
  (λt v=>tb (s6 y none λt' v'=>some (and (Nat.beq t t') (ih v v'))))
  (Kd y)
  (λa=>tb (jH y λb=>some (il ih a b)))
  (λa=>tb (A6 y λb=>some (il ih a b)))) n
def uJ (o:aQ)(fr:Fr)(h:aa):Bool :=
 aO (bj o.guard fr) (tb (ob (aC o.op fr h) λr=>@Option.rec Nat (λ_=>Option Bool) none (λd=>some (dz 20 r.1 (aJ (.t d) fr))) o.dst)) true
def ko (l:List aQ)(fr:Fr)(h:aa):Bool:=@List.rec aQ (λ_=>Bool) true (λo _ ih=>aO (uJ o fr h) ih false) l
def oq (E:Env)(ao:b9)(base:Nat)(s:aP)(fr:Fr)(h:aa):Option (Fr×aa) :=
 @Cls.rec (λ_=>Option (Fr×aa))
  (ob (eA E ao s.o fr h) λr=>some (dB s.o.dst fr r.1,r.2))
  (ob (eA E ao s.o fr h) λr=>some (dB s.o.dst fr r.1,r.2))
  (ob (eA E ao s.o fr ⟨Nat.add base s.i,h.t⟩) λr=>some (dB s.o.dst fr r.1,⟨h.next,r.2.t⟩))
  (ob (eA E ao s.o fr h) λr=>aO (ko s.re (dB s.o.dst fr r.1) r.2) (some (dB s.o.dst fr r.1,r.2)) none) s.cls
def bC (E:Env)(ao:b9)(base:Nat)(l:List aP):Fr->aa->Option (Fr×aa) :=
 @List.rec aP (λ_=>Fr->aa->Option (Fr×aa)) (λfr h=>some (fr,h)) (λs _ ih fr h=>ob (oq E ao base s fr h) λr=>ih r.1 r.2) l
inductive fe where
 |normal|exit (id:Nat)|ret
 deriving Inhabited
structure Out where
 e:fe
 fr:Fr
 h:aa
abbrev XR:=Option Out
def andThen (r:XR)(k:Fr->aa->XR):XR:=ob r λo=>@fe.rec (λ_=>XR) (k o.fr o.h) (λid=>some ⟨.exit id,o.fr,o.h⟩) (some ⟨.ret,o.fr,o.h⟩) o.e
def iter (body:Fr->aa->XR)(n:Nat):Fr->aa->XR :=
 @Nat.rec (λ_=>Fr->aa->XR) (λ_ _=>none) (λ_ ih fr h=>andThen (body fr h) ih) n
def mf (id:Nat)(r:XR):XR:=ob r λo=>@fe.rec (λ_=>XR) (some ⟨.normal,o.fr,o.h⟩) (λj=>aO (Nat.beq j id) (some ⟨.normal,o.fr,o.h⟩) (some ⟨.exit j,o.fr,o.h⟩)) (some ⟨.ret,o.fr,o.h⟩) o.e
def exec (E:Env)(ao:b9)(lf:Nat)(c:ax):Fr->aa->XR :=
 @ax.rec (λ_=>Fr->aa->XR)
  (λfr h=>some ⟨.normal,fr,h⟩)
  (λops fr h=>ob (cP E ao ops fr h) λp=>some ⟨.normal,p.1,p.2⟩)
  (λn l fr h=>ob (bC E ao h.next l fr ⟨Nat.add h.next n,h.t⟩) λp=>some ⟨.normal,p.1,p.2⟩)
  (λ_ _ iha ihb fr h=>andThen (iha fr h) ihb)
  (λc _ _ iha ihb fr h=>bK (aJ c fr) λb=>aO b (iha fr h) (ihb fr h))
  (λid _ ih fr h=>mf id (ih fr h))
  (λ_ ih=>iter ih lf)
  (λid fr h=>some ⟨.exit id,fr,h⟩)
  (λfr h=>some ⟨.ret,fr,h⟩) c
def dN (l:List ae):Nat->Fr->Fr:=@List.rec ae (λ_=>Nat->Fr->Fr) (λ_ t=>t) (λa _ ih i t=>ih (Nat.succ i) (t.set i a)) l
def gS (E:Env)(h:aa)(fr:Fr):ResultVar->Option ae
 |.tmp t=>some (aJ (.t t) fr)
 |.cell a t=>ob (iV E t) λg=>ob (E.size t) λn=>gu (aJ (.t a) fr) λb o=>eJ (h.get b) λc _ own =>
  aO g (aO (and (Nat.ble (Nat.add o n) (cJ c)) (yk own (bD n (bG o c)))) (some (.agg (bD n (bG o c)))) none) (ob (fW c o) λv=>aO (HG own v) (some v) none)
def wi (E:Env)(h:aa)(fr:Fr):List ResultVar->Option (List ae)
 |[]=>some []
 |r :: l=>ob (gS E h fr r) λv=>ob (wi E h fr l) λvs=>some (v :: vs)
def bw (E:Env)(h:aa)(fr:Fr)(l:List ResultVar):Option ae :=
 ob (wi E h fr l) λvs=>match vs with
   |[v]=>some v
   |vs=>some (.eC vs)
def sC (l:List (Nat×List ae×TypeId))(h:aa):Bool :=
 @List.rec (Nat×List ae×TypeId) (λ_=>Bool) true (λp _ ih=>aO (tb (eJ (h.get p.1) λc e _=>some (and (Nat.beq e p.2.2) (il (dz 20) c p.2.1)))) ih false) l
def ou (l:List (Nat×List ae×TypeId)):T aE->T aE :=
 @List.rec (Nat×List ae×TypeId) (λ_=>T aE->T aE) (λt=>t) (λp _ ih t=>ih (t.set p.1 (.cells p.2.1 p.2.2))) l
def LO (l:List (List ae×ae))(args:List ae):Option ae :=
 @List.rec (List ae×ae) (λ_=>Option ae) none (λp _ ih=>aO (il (dz 20) args p.1) (some p.2) ih) l
def tP (p:Prim)(args:List ae)(h:aa):R :=
 match p,args with
 |.gg t,[v]=>gu v λb o=>onCells (h.get b) λc e =>
  aO (and (Nat.beq e t) (and (Nat.beq (Nat.mod o 2) 0) (Nat.ble (Nat.add o 2) (cJ c))))
   (ob (fW c o) λw=>match w with
    |.dt=>some (.eC [],h.put b (.cells (over c o [.ptr b o]) e))
    |.ptr b' o'=>aO (and (Nat.beq b b') (Nat.beq o o')) (some (.eC [],h)) none
    |_=>none) none
 |.fix x,args=>aO (and (il (dz 20) args x.args) (and (Nat.beq h.next x.next) (sC x.rows h))) (some (x.v,⟨x.next',ou x.new h.t⟩)) none
 |.consts l,args=>ob (LO l args) λv=>some (v,h)
 |.fn g,args=>g args h
 |_,_=>none
def Env.code (E:Env)(f:FuncId):Option (ax×List ResultVar):=do
 let fn <-E.fn.get f
 let c <-fn.body
 let cc <-bR E fn.ntmps ((E.dy.get f).getD []) c
 pure (cc,fn.results.toList)
def tD (E:Env)(rs:List ResultVar)(o:Out):R :=
 @fe.rec (λ_=>R) (ob (bw E o.h o.fr rs) λv=>some (v,o.h)) (λ_=>none) (ob (bw E o.h o.fr rs) λv=>some (v,o.h)) o.e
def ba (E:Env)(lf n:Nat):b9 :=
 @Nat.rec (λ_=>b9) (λ_ _ _=>none) (λ_ ih f args h=>@Option.rec Prim (λ_=>R)
  (ob (E.code f) λc=>ob (exec E ih lf c.1 (dN args 0 .nil) h) λo=>tD E c.2 o)
  (λp=>tP p args h) (E.uG.get f)) n
end
def av {α β:Type}{o:Option α}{k:α->Option β}{b:β}:ob o k=some b↔∃a,o=some a/\k a=some b:=by
 cases o<;>simp[ob]
def bq {α:Type}(b:Bool)(x y:α):aO b x y=if b=true then x else y:=by cases b<;>rfl
def aG {β:Type}{b:Bool}{x:Option β}{y:β}:aO b x none=some y↔b=true/\x=some y:=by
 cases b<;>simp[aO]
def Cq (n k:Nat):bits (n+1) k=if k=0 then[] else Nat.beq (k % 2) 1 :: bits n ((k-1) / 2):=by
 show aO (Nat.beq k 0) [] _=_;rw[bq];by_cases h:k=0
 .subst h;simp
 .rw[if_neg h,if_neg (by simp[h])];rfl
def Ra:∀(n k m l:Nat),k<n->l<m->bits n k=bits m l->k=l:=by
 intro n
 induction n with
 |zero=>intro k m l h;omega
 |succ n ih =>
  intro k m l hk hl h;cases m with
  |zero=>omega
  |succ m =>
   rw[Cq,Cq]at h;by_cases h1:k=0
   .by_cases h2:l=0
    .omega
    .rw[if_pos h1,if_neg h2]at h;cases h
   .by_cases h2:l=0
    .rw[if_neg h1,if_pos h2]at h;cases h
    .rw[if_neg h1,if_neg h2]at h;have e:=List.cons.inj h;have e2:=ih _ _ _ (by omega) (by omega) e.2
     have e1:(k % 2=1↔l % 2=1):=by
      have:=e.1;rw[<-qZX,<-qZX,this]
     omega
def Ux {k l:Nat}(h:path k=path l):k=l:=Ra _ _ _ _ (qJA _) (qJA _) h
namespace T
variable{α:Type}
def r6 (x:Option α):∀(p:List Bool)(t:T α),N6 (rz x p t) p=x
 |[],t=>by cases t<;>rfl
 |b :: p,t=>by
  have ih:=r6 x p;cases t with
  |nil=>cases b<;>exact ih .nil
  |node v l r=>cases b;exact ih r;exact ih l
def vz (x:Option α):∀(p q:List Bool)(t:T α),p≠q->N6 (rz x p t) q=N6 t q
 |[],[],_,h=>(h rfl).elim
 |[],c :: q,t,_=>by
  cases t with
  |nil=>cases c<;>rfl
  |node v l r=>rfl
 |b :: p,[],t,_=>by cases t<;>cases b<;>rfl
 |b :: p,c :: q,t,h=>by
  have ih:=vz x p q;cases t with
  |nil =>
   cases b<;>cases c<;>first
    |exact ih .nil (λe=>h (by rw[e]))
    |rfl
  |node v l r =>
   cases b<;>cases c<;>first
    |exact ih _ (λe=>h (by rw[e]))
    |rfl
def get_set_same (t:T α)(k:Nat)(x:α):(t.set k x).get k=some x:=r6 _ _ _
def cY (t:T α){k j:Nat}(x:α)(h:k≠j):(t.set k x).get j=t.get j:=vz _ _ _ _ (λe=>h (Ux e))
theorem get_nil (k:Nat):(T.nil:T α).get k=none:=rfl
end T
def aa.aj (h:aa)(b:Nat)(o:aE):(h.put b o).get b=some o:=T.get_set_same _ _ _
def aa.ah (h:aa){b c:Nat}(o:aE)(hn:b≠c):(h.put b o).get c=h.get c:=T.cY _ _ hn
def aa.ai (h:aa)(o:aE):(h.push o).get h.next=some o:=T.get_set_same _ _ _
def aa.aA (h:aa){c:Nat}(o:aE)(hn:h.next≠c):(h.push o).get c=h.get c:=T.cY _ _ hn
theorem aa.bI (h:aa)(o:aE):(h.push o).next=h.next+1:=rfl
theorem aa.eT (h:aa)(b:Nat)(o:aE):(h.put b o).next=h.next:=rfl
section elim
variable{β:Type}
def eh {v:ae}{k:Bool->Option β}{r:β}:bK v k=some r↔∃b,v=.bool b/\k b=some r:=by cases v<;>simp[bK]
def fA {v:ae}{k:IntKind->Int->Option β}{r:β}:jr v k=some r↔∃a b,v=.int a b/\k a b=some r:=by
 constructor
 .intro h;cases v<;>first|exact⟨_,_,rfl,h⟩|cases h
 .rintro⟨a,b,rfl,h⟩;exact h
def fB {v:ae}{k:List Nat->Option β}{r:β}:kH v k=some r↔∃s,v=.str s/\k s=some r:=by cases v<;>simp[kH]
def cZ {v:ae}{k:Nat->Nat->Option β}{r:β}:gu v k=some r↔∃b o,v=.ptr b o/\k b o=some r:=by
 constructor
 .intro h;cases v<;>first|exact⟨_,_,rfl,h⟩|cases h
 .rintro⟨a,b,rfl,h⟩;exact h
def dI {v:ae}{z:Option β}{k:Nat->Nat->Nat->Nat->Bool->Option β}{r:β} :
 gR v z k=some r↔(v=.af/\z=some r)\/∃b o n c e,v=.slice b o n c e/\k b o n c e=some r:=by
 constructor
 .intro h;cases v<;>first|exact .inr ⟨_,_,_,_,_,rfl,h⟩|exact .inl ⟨rfl,h⟩|cases h
 .rintro(⟨rfl,h⟩|⟨_,_,_,_,_,rfl,h⟩)<;>exact h
def jc {v:ae}{z:Option β}{k:Nat->Option β}{r:β}:ss v z k=some r↔(v=.b8/\z=some r)\/∃m,v=.map m/\k m=some r:=by
 cases v<;>simp[ss]
def oa {v:ae}{k:FuncId->List ae->List ae->Option β}{r:β}:A5 v k=some r↔∃f a c,v=.func f a c/\k f a c=some r:=by
 constructor
 .intro h;cases v<;>first|exact⟨_,_,_,rfl,h⟩|cases h
 .rintro⟨a,b,c,rfl,h⟩;exact h
def qL {v:ae}{z:Option β}{k:TypeId->ae->Option β}{r:β}:s6 v z k=some r↔(v=.dq/\z=some r)\/∃t w,v=.iface t w/\k t w=some r:=by
 constructor
 .intro h;cases v<;>first|exact .inr ⟨_,_,rfl,h⟩|exact .inl ⟨rfl,h⟩|cases h
 .rintro(⟨rfl,h⟩|⟨_,_,rfl,h⟩)<;>exact h
def iv {v:ae}{k:List ae->Option β}{r:β}:jH v k=some r↔∃l,v=.agg l/\k l=some r:=by cases v<;>simp[jH]
def A7 {v:ae}{k:List ae->Option β}{r:β}:A6 v k=some r↔∃l,v=.eC l/\k l=some r:=by cases v<;>simp[A6]
def eV {v:ae}{k:Nat->Option β}{r:β}:js v k=some r↔∃a n,v=.int a (.ofNat n)/\k n=some r:=by
 unfold js;rw[fA];constructor
 .rintro⟨a,b,rfl,h⟩;cases b with
  |ofNat m=>exact⟨a,m,rfl,h⟩
  |negSucc m=>cases h
 .rintro⟨a,n,rfl,h⟩;exact⟨a,_,rfl,h⟩
def ki {o:Option aE}{k:List ae->TypeId->Option β}{r:β}:onCells o k=some r↔∃c e,o=some (.cells c e)/\k c e=some r:=by
 constructor
 .intro h;cases o with
  |none=>cases h
  |some o=>cases o<;>first|exact⟨_,_,rfl,h⟩|cases h
 .rintro⟨_,_,rfl,h⟩;exact h
def KJ {o:Option aE}{k:List ae->TypeId->Bool->Option β}{r:β}:eJ o k=some r↔(∃c e,o=some (.cells c e)/\k c e true=some r)\/(∃c e,o=some (.ro c e)/\k c e false=some r):=by
 constructor
 .intro h;cases o with
  |none=>cases h
  |some o=>cases o<;>first|exact .inl ⟨_,_,rfl,h⟩|exact .inr ⟨_,_,rfl,h⟩|cases h
 .rintro(⟨_,_,rfl,h⟩|⟨_,_,rfl,h⟩)<;>exact h
def fK {o:Option aE}{k:List (ae×ae×Nat)->Nat->Option β}{r:β}:jb o k=some r↔∃es c,o=some (.map es c)/\k es c=some r:=by
 constructor
 .intro h;cases o with
  |none=>cases h
  |some o=>cases o<;>first|exact⟨_,_,rfl,h⟩|cases h
 .rintro⟨_,_,rfl,h⟩;exact h
def qM {o:Option aE}{k:Option Nat->Nat->List Nat->Nat->Option β}{r:β} :
 zb o k=some r↔∃m s l t,o=some (.mapIter m s l t)/\k m s l t=some r:=by
 constructor
 .intro h;cases o with
  |none=>cases h
  |some o=>cases o<;>first|exact⟨_,_,_,_,rfl,h⟩|cases h
 .rintro⟨_,_,_,_,rfl,h⟩;exact h
end elim
section lists
variable{α:Type}
def bV (l:List α):cJ l=l.length:=by induction l with
 |nil=>rfl
 |cons a l ih=>show Nat.succ (cJ l)=_;rw[ih];rfl
def fT (l:List α):∀i,fW l i=l[i]?:=by induction l with
 |nil=>intro i;rfl
 |cons a l ih=>intro i;cases i with
  |zero=>rfl
  |succ i=>show fW l i=_;rw[ih];rfl
def df (n:Nat):∀l:List α,bG n l=l.drop n:=by induction n with
 |zero=>intro l;rfl
 |succ n ih=>intro l;cases l with
  |nil=>rfl
  |cons a l=>show bG n l=_;rw[ih];rfl
def cW (n:Nat):∀l:List α,bD n l=l.take n:=by induction n with
 |zero=>intro l;rfl
 |succ n ih=>intro l;cases l with
  |nil=>rfl
  |cons a l=>show a :: bD n l=_;rw[ih];rfl
def gQ (a b:List α):gd a b=a++b:=by induction a with
 |nil=>rfl
 |cons x a ih=>show x :: gd a b=_;rw[ih];rfl
def gq {γ:Type}(f:α->γ)(l:List α):T3 f l=l.map f:=by induction l with
 |nil=>rfl
 |cons x a ih=>show f x :: T3 f a=_;rw[ih];rfl
def zd (n:Nat)(z:List α):sy n z=(List.replicate n z).flatten:=by induction n with
 |zero=>rfl
 |succ n ih=>show gd z (sy n z)=_;rw[gQ,ih];rfl
def EI (vs:List α):∀l:List α,(og vs l).length=l.length:=by induction vs with
 |nil=>intro l;rfl
 |cons v vs ih=>intro l;cases l with
  |nil=>rfl
  |cons a l=>show(v :: og vs l).length=_;simp[ih]
def ym (vs:List α)(n:Nat):∀l:List α,(over l n vs).length=l.length:=by induction n with
 |zero=>intro l;exact EI vs l
 |succ n ih=>intro l;cases l with
  |nil=>rfl
  |cons a l=>show(a :: over l n vs).length=_;simp[ih]
def Pm (vs:List α):∀(l:List α)(i:Nat),vs.length<=l.length->(og vs l)[i]?=if i<vs.length then vs[i]? else l[i]?:=by
 induction vs with
 |nil=>intro l i _;simp[og]
 |cons v vs ih =>
  intro l i hl;cases l with
  |nil=>simp at hl
  |cons a l =>
   show(v :: og vs l)[i]?=_;cases i with
   |zero=>simp
   |succ i=>simp only[qJC,qZK,Nat.add_lt_add_iff_right];exact ih l i (by simpa using hl)
def Ba (vs:List α)(n:Nat):∀(l:List α)(i:Nat),n+vs.length<=l.length ->
 (over l n vs)[i]?=if n<=i/\i<n+vs.length then vs[i-n]? else l[i]?:=by
 induction n with
 |zero =>
  intro l i hl;show(og vs l)[i]?=_;rw[Pm vs l i (by omega)];simp
 |succ n ih =>
  intro l i hl;cases l with
  |nil=>simp at hl
  |cons a l =>
   show(a :: over l n vs)[i]?=_;cases i with
   |zero=>simp
   |succ i =>
    simp only[qJC];rw[ih l i (by simp at hl;omega)];have e1:(n+1<=i+1/\i+1<n+1+vs.length)↔(n<=i/\i<n+vs.length):=by omega
    simp only[e1];have e2:i+1-(n+1)=i-n:=by omega
    rw[e2]
def X4 (f:α->α)(l:List α):∀i,xo f l i=l.modify i f:=by induction l with
 |nil=>intro i;cases i<;>rfl
 |cons a l ih=>intro i;cases i with
  |zero=>rfl
  |succ i=>show a :: xo f l i=_;rw[ih];rfl
end lists
def mI (s:Nat)(fr:Fr):aJ (.t s) fr=(fr.get s).getD aT:=by
 show @Option.rec ae (λ_=>ae) aT (λv=>v) (fr.get s)=_;cases fr.get s<;>rfl
open Go.RowKit
def alP (d:Nat)(k:Option (Nat×Nat)):Prop:=(k=none->d=0)/\∀z x,k=some (z,x)->z∣d
def mz {k:Option (Nat×Nat)}:alP 0 k:=⟨λ_=>rfl,λz _ _=>Nat.dvd_zero z⟩
structure RB where
 b:Nat
 d:Nat
 k:Option (Nat×Nat)
 al:alP d k
abbrev Ren:=Nat->Option RB
def Ren.le (ρ bn:Ren):Prop:=∀n r,ρ n=some r->bn n=some r
def Ren.le_refl (ρ:Ren):ρ.le ρ:=λ_ _ h=>h
def Ren.le_trans {a b c:Ren}(h:a.le b)(k:b.le c):a.le c:=λn r e=>k n r (h n r e)
def Ren.rB (ρ:Ren)(n:Nat)(r:RB):Ren:=λm=>if m=n then some r else ρ m
def Ren.fq (ρ:Ren)(n:Nat)(r:RB):ρ.rB n r n=some r:=by simp[Ren.rB]
def Ren.np (ρ:Ren){n m:Nat}(r:RB)(h:m≠n):ρ.rB n r m=ρ m:=by simp[Ren.rB,h]
def Ren.iZ {ρ:Ren}{n:Nat}(r:RB)(h:ρ n=none):ρ.le (ρ.rB n r):=by
 intro m s hm;have:m≠n:=λe=>by rw[e,h]at hm;cases hm
 rw[Ren.np _ _ this];exact hm
mutual
inductive V (ρ:Ren):ae->Value->Prop
 |bool (b:Bool):V ρ (.bool b) (.bool b)
 |int (k:IntKind) (n:Int):V ρ (.int k n) (.int k n)
 |str {s:List Nat} {bs:ByteArray}:bs.data.toList.map UInt8.toNat=s->V ρ (.str s) (.string bs)
 |dt:V ρ .dt (.pointer none)
 |ptr {b o:Nat} {r:RB}:ρ b=some r->V ρ (.ptr b o) (.pointer (some ⟨r.b,o+r.d,none⟩))
 |af:V ρ .af (.slice none 0 0)
 |slice {b o n c c':Nat} {r:RB} {ex:Bool}:ρ b=some r->n<=c->(ex=true->c'=c) ->
  (ex=false->c<=c'/\∃z e,r.k=some (z,e)/\o+c'*z<=e)->V ρ (.slice b o n c ex) (.slice (some ⟨r.b,o+r.d,none⟩) n c')
 |sH {b o:Nat} {ex:Bool} {a:Addr}:V ρ (.slice b o 0 0 ex) (.slice (some a) 0 0)
 |b8:V ρ .b8 (.map none)
 |map {m:Nat} {r:RB}:ρ m=some r->V ρ (.map m) (.map (some r.b))
 |func {f:FuncId} {a c:List ae} {a' c':Array Value}:Nat.blt f 1000000000=true->VL ρ a a'.toList->VL ρ c c'.toList->V ρ (.func f a c) (.func (.func f) a' c')
 |yld {n:Nat} {r:RB}:ρ n=some r->V ρ (.func (1000000000+n) [] []) (.func (.yield r.b) #[] #[])
 |fb:V ρ .fb .nilFunc
 |iface {t:TypeId} {v:ae} {v':Value}:V ρ v v'->V ρ (.iface t v) (.iface t v')
 |dq:V ρ .dq .nilIface
 |agg {l:List ae} {l':Array Value}:(∀x,x∈l->x.flat=true)->VL ρ l l'.toList->V ρ (.agg l) (.agg l')
 |eC {l:List ae} {l':Array Value}:VL ρ l l'.toList->V ρ (.eC l) (.tuple l')
inductive VL (ρ:Ren):List ae->List Value->Prop
 |nil:VL ρ [] []
 |cons {a:ae} {a':Value} {l:List ae} {l':List Value}:V ρ a a'->VL ρ l l'->VL ρ (a :: l) (a' :: l')
end
mutual
def V.mono {ρ bn:Ren}(h:ρ.le bn):∀{a:ae}{v:Value},V ρ a v->V bn a v
 |_,_,.bool b=>.bool b
 |_,_,.int k n=>.int k n
 |_,_,.str e=>.str e
 |_,_,.dt=>.dt
 |_,_,.ptr e=>.ptr (h _ _ e)
 |_,_,.af=>.af
 |_,_,.slice e a b c=>.slice (h _ _ e) a b c
 |_,_,.sH=>.sH
 |_,_,.b8=>.b8
 |_,_,.map e=>.map (h _ _ e)
 |_,_,.func l a c=>.func l (VL.mono h a) (VL.mono h c)
 |_,_,.yld e=>.yld (h _ _ e)
 |_,_,.fb=>.fb
 |_,_,.iface v=>.iface (V.mono h v)
 |_,_,.dq=>.dq
 |_,_,.agg f l=>.agg f (VL.mono h l)
 |_,_,.eC l=>.eC (VL.mono h l)
def VL.mono {ρ bn:Ren}(h:ρ.le bn):∀{a:List ae}{v:List Value},VL ρ a v->VL bn a v
 |_,_,.nil=>.nil
 |_,_,.cons a l=>.cons (V.mono h a) (VL.mono h l)
end
def VL.length {ρ:Ren}:∀{l:List ae}{l':List Value},VL ρ l l'->l.length=l'.length
 |_,_,.nil=>rfl
 |_,_,.cons _ h=>by simp[VL.length h]
def VL.get {ρ:Ren}:∀{l:List ae}{l':List Value},VL ρ l l'->∀{i:Nat}{v:ae},l[i]?=some v->∃v',l'[i]?=some v'/\V ρ v v'
 |_,_,.nil,i,v,h=>by simp at h
 |_,_,.cons (a:=a) (a':=a') ha hl,i,v,h=>by
  cases i with
  |zero=>simp at h;subst h;exact⟨a',rfl,ha⟩
  |succ i=>simp at h ⊢;exact VL.get hl h
def VL.get' {ρ:Ren}:∀{l:List ae}{l':List Value},VL ρ l l'->∀{i:Nat}{v':Value},l'[i]?=some v'->∃v,l[i]?=some v/\V ρ v v'
 |_,_,.nil,i,v,h=>by simp at h
 |_,_,.cons (a:=a) (a':=a') ha hl,i,v,h=>by
  cases i with
  |zero=>simp at h;subst h;exact⟨a,rfl,ha⟩
  |succ i=>simp at h ⊢;exact VL.get' hl h
def VL.xB {ρ:Ren}:∀{l:List ae}{l':List Value},l.length=l'.length->(∀(i:Nat)(v:ae)(v':Value),l[i]?=some v->l'[i]?=some v'->V ρ v v')->VL ρ l l'
 |[],[],_,_=>.nil
 |[],_ :: _,h,_=>by simp at h
 |_ :: _,[],h,_=>by simp at h
 |a :: l,a' :: l',h,hv=>.cons (hv 0 a a' rfl rfl) (VL.xB (by simpa using h) (λi v v' h1 h2=>hv (i+1) v v' (by simpa using h1) (by simpa using h2)))
def VL.append {ρ:Ren}:∀{a:List ae}{a':List Value}{b:List ae}{b':List Value},VL ρ a a'->VL ρ b b'->VL ρ (a++b) (a'++b')
 |_,_,_,_,.nil,h=>h
 |_,_,_,_,.cons x l,h=>.cons x (VL.append l h)
def VL.drop {ρ:Ren}:∀{a:List ae}{a':List Value}(n:Nat),VL ρ a a'->VL ρ (a.drop n) (a'.drop n)
 |_,_,_,.nil=>by simpa using VL.nil
 |_,_,0,.cons x l=>.cons x l
 |_,_,n+1,.cons _ l=>by simpa using VL.drop n l
def VL.take {ρ:Ren}:∀{a:List ae}{a':List Value}(n:Nat),VL ρ a a'->VL ρ (a.take n) (a'.take n)
 |_,_,n,.nil=>by simpa using VL.nil
 |_,_,0,.cons _ _=>by simpa using VL.nil
 |_,_,n+1,.cons x l=>by simpa using VL.cons x (VL.take n l)
def wx (ρ:Ren):V ρ aT undef:=.eC .nil
def FR (ρ:Ren)(fr:Fr)(tmps:Array Value):Prop:=∀i,V ρ ((fr.get i).getD aT) (tmps.getD i undef)
def FR.mono {ρ bn:Ren}(h:ρ.le bn){fr:Fr}{t:Array Value}(f:FR ρ fr t):FR bn fr t:=λi=>(f i).mono h
def FR.set {ρ:Ren}{fr:Fr}{t:Array Value}(f:FR ρ fr t){d:Nat}(hd:d<t.size){v:ae}{v':Value}(hv:V ρ v v'):FR ρ (fr.set d v) (t.setIfInBounds d v'):=by
 intro i;by_cases h:i=d
 .subst h;rw[T.get_set_same];simpa[qZV,qKN hd] using hv
 .rw[T.cY _ _ (Ne.symm h)]
  have:(t.setIfInBounds d v').getD i undef=t.getD i undef:=by
   simp[qZV,qVM (Ne.symm h)]
  rw[this];exact f i
def aE.live:aE->Prop
 |.dead=>False
 |_=>True
def aE.own:aE->Prop
 |.dead|.ro _ _=>False
 |_=>True
def aE.own.live {o:aE}(h:o.own):o.live:=by cases o<;>first|trivial|exact h.elim
inductive EL (ρ:Ren):List (ae×ae×Nat)->List MapEntry->Prop
 |nil:EL ρ [] []
 |cons {e:ae×ae×Nat} {e':MapEntry} {l:List (ae×ae×Nat)} {l':List MapEntry}:V ρ e.1 e'.key->V ρ e.2.1 e'.val->e.2.2=e'.born->EL ρ l l'->EL ρ (e :: l) (e' :: l')
def EL.mono {ρ bn:Ren}(h:ρ.le bn):∀{l:List (ae×ae×Nat)}{l':List MapEntry},EL ρ l l'->EL bn l l'
 |_,_,.nil=>.nil
 |_,_,.cons a b c l=>.cons (a.mono h) (b.mono h) c (EL.mono h l)
def MW (P:Program)(ρ:Ren)(r:RB)(l:List ae)(e:TypeId)(c:Option Obj):Prop :=
 ∃C fz,c=some (.cells C e fz)/\r.d+l.length<=C.size/\(∀(i:Nat) v,l[i]?=some v->v.flat=true/\∃v',C[r.d+i]?=some v'/\V ρ v v')/\(∀z x,r.k=some (z,x)->r.d+x<=C.size/\P.cellsOf e=z)
def MW.mono {P:Program}{ρ bn:Ren}(h:ρ.le bn){r:RB}{l:List ae}{e:TypeId}{c:Option Obj}(H:MW P ρ r l e c):MW P bn r l e c:=by
 obtain⟨C,fz,h1,h3,h4,h5⟩:=H;exact⟨C,fz,h1,h3,λi v hi=>let⟨a,v',b,c⟩:=h4 i v hi;⟨a,v',b,c.mono h⟩,h5⟩
def BJ (P:Program)(ρ:Ren)(r:RB)(l:List ae)(e:TypeId)(c:Option Obj):Prop :=
 ∃C fz,c=some (.cells C e fz)/\r.d+l.length<=C.size/\(∀(i:Nat) v,l[i]?=some v->v.flat=true->∃v',C[r.d+i]?=some v'/\V ρ v v')/\(∀z x,r.k=some (z,x)->r.d+x<=C.size/\P.cellsOf e=z)
def BJ.mono {P:Program}{ρ bn:Ren}(h:ρ.le bn){r:RB}{l:List ae}{e:TypeId}{c:Option Obj}(H:BJ P ρ r l e c):BJ P bn r l e c:=by
 obtain⟨C,fz,h1,h3,h4,h5⟩:=H;exact⟨C,fz,h1,h3,λi v hi hf=>let⟨v',b,c⟩:=h4 i v hi hf;⟨v',b,c.mono h⟩,h5⟩
def MW.hold {P:Program}{ρ:Ren}{r:RB}{l:List ae}{e:TypeId}{c:Option Obj}(H:MW P ρ r l e c):BJ P ρ r l e c:=by
 obtain⟨C,fz,h1,h3,h4,h5⟩:=H;exact⟨C,fz,h1,h3,λi v hi _=>(h4 i v hi).2,h5⟩
def pj (P:Program)(ρ:Ren)(r:RB):aE->Option Obj->Prop
 |.cells l e,c=>MW P ρ r l e c/\∀C fz,c=some (.cells C e fz)->∀x,x<C.size->¬(fz.1<=x/\x<fz.2)
 |.ro l e,c=>BJ P ρ r l e c
 |.map es clock,c=>r.d=0/\∃dX,c=some (.map dX clock)/\EL ρ es dX.toList
 |.mapIter m since seen st,c=>r.d=0/\∃m',c=some (.mapIter m' since seen.toArray st)/\(m=none/\m'=none\/∃a s,m=some a/\ρ a=some s/\m'=some s.b)
 |.dead,_=>True
def pj.mono {P:Program}{ρ bn:Ren}(h:ρ.le bn){r:RB}{o:aE}{c:Option Obj}(H:pj P ρ r o c):pj P bn r o c:=by
 cases o with
 |cells l e=>exact⟨H.1.mono h,H.2⟩
 |ro l e=>exact BJ.mono h H
 |map es clock =>
  obtain⟨h0,dX,h1,h2⟩:=H;exact⟨h0,dX,h1,h2.mono h⟩
 |mapIter m s l t =>
  obtain⟨h0,m',h1,h2⟩:=H;exact⟨h0,m',h1,h2.imp id λ⟨a,s,x,y,z⟩=>⟨a,s,x,h _ _ y,z⟩⟩
 |dead=>trivial
structure cu where
 k:Nat->Prop
 n0:Nat
 pY:Ren
 g:Nat->Prop
instance:CoeFun cu (λ_=>Nat->Prop):=⟨cu.k⟩
class Lay (P:Program) where
 dom:Nat->Prop
 lay:Nat->Option Obj->Prop
 dm:Prop
structure IG {T:Type}(dm:Prop)(t t0:T)(d d0:Nat):Prop where
 tp:t=t0
 dr:dm->d0<=d
def IG.refl {T:Type}(dm:Prop)(t:T)(d:Nat):IG dm t t d d:=⟨rfl,λ_=>qQY _⟩
def IG.trans {T:Type}{dm:Prop}{t t1 t2:T}{d d1 d2:Nat}(h:IG dm t t1 d d1)(k:IG dm t1 t2 d1 d2):IG dm t t2 d d2:=⟨h.tp.trans k.tp,λx=>qZC (k.dr x) (h.dr x)⟩
def IG.of {T:Type}{dm:Prop}{t t1 t2:T}{d d1 d2:Nat}(k:IG dm t1 t2 d1 d2)(h:(t,d)=(t1,d1)):IG dm t t2 d d2:=by
 cases h;exact k
structure WR (P:Program)[Lay P](K:cu)(W0:World)(ρ:Ren)(h:aa)(w:World):Prop where
 os:w.os=W0.os
 tape:IG (Lay.dm P) w.tape W0.tape w.drawn W0.drawn
 output:w.output=W0.output
 size:W0.heap.size<=w.heap.size
 yP:∀b,K b->b<W0.heap.size
 eN:∀b,K b->w.heap[b]?=W0.heap[b]?
 fresh:∀n,h.next<=n->ρ n=none/\h.get n=none
 obj:∀n o,h.get n=some o->o.live->∃r,ρ n=some r/\(o.own->¬K r.b)/\pj P ρ r o (w.heap[r.b]?)
 inj:∀n m o p r s,h.get n=some o->o.own->h.get m=some p->p.live->ρ n=some r->ρ m=some s->r.b=s.b->n=m
 nx:K.n0<=h.next
 fL:∀n,n<K.n0->ρ n=K.pY n
 gk:∀b,K.g b->K b
 hid:∀n o r,h.get n=some o->o.live->ρ n=some r->¬K.g r.b
 lay:∀b,Lay.dom P b->K b/\Lay.lay P b (W0.heap[b]?)
def pj.some {P:Program}{ρ:Ren}{r:RB}{o:aE}{c:Option Obj}(h:pj P ρ r o c)(hl:o.live):∃x,c=some x:=by
 cases o with
 |cells l e=>obtain⟨⟨C,fz,h1,_⟩,_⟩:=h;exact⟨_,h1⟩
 |ro l e=>obtain⟨C,fz,h1,_⟩:=h;exact⟨_,h1⟩
 |map es clock=>obtain⟨_,dX,h1,_⟩:=h;exact⟨_,h1⟩
 |mapIter m s l t=>obtain⟨_,m',h1,_⟩:=h;exact⟨_,h1⟩
 |dead=>exact hl.elim
section WR
variable{P:Program}[Lay P]{K:cu}{W0:World}{ρ:Ren}{h:aa}{w:World}
def WR.lt (H:WR P K W0 ρ h w){n:Nat}{o:aE}{r:RB}(hn:h.get n=some o)(hl:o.live)(hr:ρ n=some r):r.b<w.heap.size:=by
 obtain⟨r',oH,_,ho⟩:=H.obj n o hn hl;rw[hr]at oH;cases oH;obtain⟨x,hx⟩:=ho.some hl;exact(qJZ.1 hx).1
def WR.drawn (H:WR P K W0 ρ h w)(n:Nat)(hn:w.drawn<=n:=by first|exact qQY _|exact qKL _ _|omega):WR P K W0 ρ h {w with drawn:=n} :=
 ⟨H.os,⟨H.tape.tp,λx=>qZC (H.tape.dr x) hn⟩,H.output,H.size,H.yP,H.eN,H.fresh,H.obj,H.inj,H.nx,H.fL,H.gk,H.hid,H.lay⟩
def WR.alloc (H:WR P K W0 ρ h w)(o:Obj):WR P K W0 ρ h {w with heap:=w.heap.push o}:=by
 have dL:∀b,b<w.heap.size->(w.heap.push o)[b]?=w.heap[b]?:=λb hb=>by rw[qKW,if_neg (by omega)]
 refine⟨H.os,H.tape,H.output,by simp;exact Nat.le_succ_of_le H.size,H.yP,λb hb=>?_,H.fresh,λn x hn hl=>?_,H.inj,H.nx,H.fL,H.gk,H.hid,H.lay⟩
 .show(w.heap.push o)[b]?=_;rw[dL b (qQG (H.yP b hb) H.size)];exact H.eN b hb
 .obtain⟨r,hr,hk,ho⟩:=H.obj n x hn hl;refine⟨r,hr,hk,?_⟩;show pj P ρ r x ((w.heap.push o)[r.b]?);rw[dL _ (H.lt hn hl hr)];exact ho
def WR.Y6 (H:WR P K W0 ρ h w){h':aa}{n:Nat}{o:aE}{r:RB}(ru:ρ n=none)(jx:h'.get n=some o)(dV:∀m,m≠n->h'.get m=h.get m)
 (ra:h.next<=h'.next) (hn:n<h'.next) (qZ:K.n0<=n) (hk:¬K r.b) (tI:∀m p s,h.get m=some p->p.live->ρ m=some s->s.b≠r.b)
 (ho:pj P (ρ.rB n r) r o (w.heap[r.b]?)):WR P K W0 (ρ.rB n r) h' w:=by
 have hle:=Ren.iZ r ru;refine⟨H.os,H.tape,H.output,H.size,H.yP,H.eN,λm hm=>?_,λm p hm hl=>?_,λm m' p p' s s' hm hl E' pf hs ar e=>?_,qZC H.nx ra,λm hm=>by rw[Ren.np _ _ (by omega)];exact H.fL m hm,H.gk,λm p s hm hl hs hg=>?_,H.lay⟩
 .have GI:m≠n:=by omega
  rw[Ren.np _ _ GI,dV _ GI];exact H.fresh m (by omega)
 .by_cases e:m=n
  .subst e;rw[jx]at hm;cases hm;exact⟨r,Ren.fq _ _ _,λ_=>hk,ho⟩
  .rw[dV _ e]at hm;obtain⟨s,hs,hks,Z0⟩:=H.obj m p hm hl;exact⟨s,hle _ _ hs,hks,Z0.mono hle⟩
 .by_cases e1:m=n
  .by_cases e2:m'=n
   .omega
   .subst e1;rw[dV _ e2] at E';rw[Ren.np _ _ e2]at ar;rw[Ren.fq]at hs;cases hs;exact(tI m' p' s' E' pf ar e.symm).elim
  .rw[dV _ e1]at hm;rw[Ren.np _ _ e1]at hs;by_cases e2:m'=n
   .subst e2;rw[Ren.fq]at ar;cases ar;exact(tI m p s hm hl.live hs e).elim
   .rw[dV _ e2] at E';rw[Ren.np _ _ e2]at ar;exact H.inj _ _ _ _ _ _ hm hl E' pf hs ar e
 .by_cases e1:m=n
  .subst e1;rw[Ren.fq]at hs;cases hs;exact hk (H.gk _ hg)
  .rw[dV _ e1]at hm;rw[Ren.np _ _ e1]at hs;exact H.hid _ _ _ hm hl hs hg
def WR.push (H:WR P K W0 ρ h w){h':aa}{n:Nat}{o:aE}{r:RB}(O:Obj)(ru:ρ n=none)(jx:h'.get n=some o)(dV:∀m,m≠n->h'.get m=h.get m)
 (ra:h.next<=h'.next) (hn:n<h'.next) (qZ:K.n0<=n) (hb:r.b=w.heap.size)
 (ho:pj P (ρ.rB n r) r o (some O)):WR P K W0 (ρ.rB n r) h' {w with heap:=w.heap.push O}:=by
 refine(H.alloc O).Y6 ru jx dV ra hn qZ (λhk=>?_) (λm p s hm hl hs e=>?_) ?_
 .have:=H.yP _ hk;have:=H.size;omega
 .have:=H.lt hm hl hs;omega
 .show pj P _ r o ((w.heap.push O)[r.b]?);rw[hb,qKW,if_pos rfl];exact ho
def WR.put (H:WR P K W0 ρ h w){n:Nat}{o o':aE}{r:RB}{w':World}(hn:h.get n=some o)(hl:o.own)(hr:ρ n=some r)
 (Z0:w'.os=w.os) (Ty:(w'.tape,w'.drawn)=(w.tape,w.drawn)) (J1:w'.output=w.output) (kF:w'.heap.size=w.heap.size)
 (Ac:∀b,b≠r.b->w'.heap[b]?=w.heap[b]?) (ho:o'.live->pj P ρ r o' (w'.heap[r.b]?)):WR P K W0 ρ (h.put n o') w':=by
 obtain⟨r',oH,hk,aqZ⟩:=H.obj n o hn hl.live;rw[hr]at oH;cases oH;have hk:=hk hl;refine⟨Z0.trans H.os,H.tape.of Ty,J1.trans H.output,by rw[kF];exact H.size,H.yP,λb hb=>?_,λm hm=>?_,λm p hm ZR=>?_,λm m' p p' s s' hm ZR E' ago hs ar e=>?_,H.nx,H.fL,H.gk,λm p s hm ZR hs hg=>?_,H.lay⟩
 .rw[Ac b (λe=>hk (e▸hb))];exact H.eN b hb
 .have GI:n≠m:=by
   rintro rfl;have:=(H.fresh n (by simpa[aa.eT] using hm)).2;rw[hn]at this;cases this
  rw[aa.ah _ _ GI];exact H.fresh m (by simpa[aa.eT] using hm)
 .by_cases e:m=n
  .subst e;rw[aa.aj]at hm;cases hm;exact⟨r,hr,λ_=>hk,ho ZR⟩
  .rw[aa.ah _ _ (Ne.symm e)]at hm;obtain⟨s,hs,hks,alb⟩:=H.obj m p hm ZR;refine⟨s,hs,hks,?_⟩;rw[Ac s.b (λeb=>e (H.inj _ _ _ _ _ _ hn hl hm ZR hr hs eb.symm).symm)];exact alb
 .by_cases e1:m=n
  .by_cases e2:m'=n
   .omega
   .subst e1;rw[aa.ah _ _ (Ne.symm e2)] at E';exact H.inj _ _ _ _ _ _ hn hl E' ago hs ar e
  .rw[aa.ah _ _ (Ne.symm e1)]at hm;by_cases e2:m'=n
   .subst e2;exact H.inj _ _ _ _ _ _ hm ZR hn hl.live hs ar e
   .rw[aa.ah _ _ (Ne.symm e2)] at E';exact H.inj _ _ _ _ _ _ hm ZR E' ago hs ar e
 .by_cases e1:m=n
  .subst e1;rw[hr]at hs;cases hs;exact H.hid _ _ _ hn hl.live hr hg
  .rw[aa.ah _ _ (Ne.symm e1)]at hm;exact H.hid _ _ _ hm ZR hs hg
def WR.kill (H:WR P K W0 ρ h w){n:Nat}{o:aE}(hn:h.get n=some o)(hl:o.own):WR P K W0 ρ (h.put n .dead) w:=by
 obtain⟨r,hr,_,_⟩:=H.obj n o hn hl.live;exact H.put hn hl hr rfl rfl rfl rfl (λ_ _=>rfl) (λh=>h.elim)
end WR
def EqF (k:FK)(x y:Value)(b:Bool):Prop :=
 match k with
 |.b=>∃p q,x=.bool p/\y=.bool q/\b=(p == q)
 |.i=>∃k p q,x=.int k p/\y=.int k q/\b=(p == q)
 |.s=>∃p q,x=.string p/\y=.string q/\b=(p.toList == q.toList)
inductive tX (xs ys:Array Value):List (Nat×FK)->Bool->Prop
 |nil:tX xs ys [] true
 |no {o:Nat×FK} {l:List (Nat×FK)} {x y:Value}:xs[o.1]?=some x->ys[o.1]?=some y->EqF o.2 x y false->tX xs ys (o :: l) false
 |yes {o:Nat×FK} {l:List (Nat×FK)} {x y:Value} {b:Bool}:xs[o.1]?=some x->ys[o.1]?=some y->EqF o.2 x y true->tX xs ys l b->tX xs ys (o :: l) b
structure StructEq (P:Program)[Lay P](t:TypeId)(eU:List (Nat×FK)):Prop where
 guard:P.eqGuardType P.depth t=false
 eq:∀(w:World)(xs ys:Array Value)(b:Bool),tX xs ys eU b->(Op.equalIn 10000 t (.agg xs) (.agg ys)).run P w=.ok b w
 key:∀(w:World)(xs:Array Value)(e:Bool),(∀o,o∈eU->(xs[o.1]?).isSome=true)->(Instr.checkKey e 10000 t (.agg xs)).run P w=.ok () w
structure bl (E:Env)(P:Program)[Lay P]:Prop where
 info:∀t i,E.info t=some i->P.info? t=some i
 fn:∀f x,E.fn.get f=some x->P.funcs[f]?=some x
 mixed:P.follows .mixedOrders=true
 eqs:∀t eU,E.eqs.get t=some eU->StructEq P t eU
section
variable{E:Env}{P:Program}[Lay P](hE:bl E P)
include hE
def bl.mr {t:TypeId}{d:TypeDesc}(h:E.mr t=some d):P.underlying t=some d:=by
 unfold Env.mr at h;unfold Program.underlying;cases hi:E.info t with
 |none=>rw[hi]at h;cases h
 |some i =>
  rw[hi]at h;rw[hE.info _ _ hi];obtain⟨desc,str,size,bytes,hp,al,fa,z,cmp,ms⟩:=i;cases desc with
  |named n u =>
   simp only[qQC]at h;obtain⟨j,hj,rfl⟩:=h;simp[hE.info _ _ hj]
  |_=>simpa using h
def bl.bz {t:TypeId}{d:TypeDesc}(h:E.mr t=some d)(w:World):(underlying t).run P w=.ok d w:=run_underlying (hE.mr h) w
def bl.Db {t:TypeId}{n:Nat}(h:E.size t=some n):∃i,P.info? t=some i/\i.size=n:=by
 unfold Env.size at h;cases hi:E.info t with
 |none=>rw[hi]at h;cases h
 |some i=>rw[hi]at h;exact⟨i,hE.info _ _ hi,by simpa using h⟩
def bl.gy {t:TypeId}{n:Nat}(h:E.size t=some n)(w:World):(sizeOf t).run P w=.ok n w:=by
 obtain⟨i,hi,rfl⟩:=hE.Db h;unfold sizeOf;simp[run_typeInfo w hi]
def bl.cellsOf {t:TypeId}{n:Nat}(h:E.size t=some n):P.cellsOf t=n:=by
 obtain⟨i,hi,rfl⟩:=hE.Db h;simp[Program.cellsOf,hi]
def bl.tf {t:TypeId}{b:Bool}(h:iV E t=some b)(w:World):(isAgg t).run P w=.ok b w:=by
 unfold iV at h;unfold isAgg;cases hu:E.mr t with
 |none=>rw[hu]at h;cases h
 |some d =>
  rw[hu]at h;simp only[Sem.run_bind,hE.bz hu,Result.andThen_ok];cases d<;>simp at h<;>subst h<;>rfl
end
def Eg {ρ:Ren}{f:Value->Option ae}(hf:∀v a,f v=some a->V ρ a v):∀{l:List Value}{r:List ae},l.mapM f=some r->VL ρ r l
 |[],r,h=>by simp at h;subst h;exact .nil
 |v :: l,r,h=>by
  simp only[qZF,qQV,qQQ]at h;obtain⟨a,h1,b,h2,h3⟩:=h;cases h3;exact .cons (hf _ _ h1) (Eg hf h2)
def Gf {ρ:Ren}:∀(n:Nat)(v:Value)(a:ae),cv n v=some a->V ρ a v:=by
 intro n
 induction n with
 |zero=>intro v a h;simp[cv]at h
 |succ n ih =>
  intro v a h;unfold cv at h;split at h
  case h_1=>cases h
  case h_2=>cases h;exact .bool _
  case h_3=>cases h;exact .int _ _
  case h_4=>cases h;exact .str rfl
  case h_5=>cases h;exact .dt
  case h_6=>cases h;exact .af
  case h_7=>cases h;exact .b8
  case h_8=>cases h;exact .fb
  case h_9=>cases h;exact .dq
  case h_10 m t v e =>
   cases e;simp only[qQC]at h;obtain⟨b,h1,rfl⟩:=h;exact .iface (ih _ _ h1)
  case h_11 m cs e =>
   cases e;simp only[qQQ]at h;obtain⟨b,h1,h2⟩:=h;split at h2
   .cases h2;rename_i jm;exact .agg (λx hx=>by simpa using List.all_eq_true.1 jm x hx) (Eg (ih) h1)
   .cases h2
  case h_12 m cs e =>
   cases e;simp only[qQC]at h;obtain⟨b,h1,rfl⟩:=h;exact .eC (Eg ih h1)
  case h_13=>cases h
def aB {ρ:Ren}{fr:Fr}{a:Act}(hf:FR ρ fr a.tmps){x:Operand}{c:au}(h:cO x=some c):V ρ (aJ c fr) (a.eval x):=by
 cases x with
 |tmp t=>simp[cO]at h;subst h;rw[mI];exact hf t
 |const v =>
  simp only[cO,qQC]at h;obtain⟨b,h1,rfl⟩:=h;exact Gf _ _ _ h1
 |global g=>simp[cO]at h
 |func f =>
  have h:(bif Nat.blt f 1000000000 then some (au.c (.func f [] [])) else none)=some c:=h;cases hb:Nat.blt f 1000000000 with
  |true=>rw[hb]at h;cases h;exact .func hb .nil .nil
  |false=>rw[hb]at h;cases h
def mj {ρ:Ren}{fr:Fr}{a:Act}(hf:FR ρ fr a.tmps){xs:Array Operand}{cs:List au}(h:Zd xs=some cs):VL ρ (jw cs fr) (xs.map a.eval).toList:=by
 unfold Zd at h
 have key:∀(l:List Operand)(cs:List au),l.mapM cO=some cs->VL ρ (jw cs fr) (l.map a.eval):=by
  intro l
  induction l with
  |nil=>intro cs h;simp at h;subst h;exact .nil
  |cons x l ih =>
   intro cs h;simp only[qZF,qQV,qQQ]at h;obtain⟨c,h1,r,h2,h3⟩:=h;cases h3;exact .cons (aB hf h1) (ih r h2)
 simpa using key xs.toList cs h
structure zj (b:Nat)(w w':World):Prop where
 os:w'.os=w.os
 tape:(w'.tape,w'.drawn)=(w.tape,w.drawn)
 output:w'.output=w.output
 size:w'.heap.size=w.heap.size
 eN:∀c,c≠b->w'.heap[c]?=w.heap[c]?
def zj.refl (b:Nat)(w:World):zj b w w:=⟨rfl,rfl,rfl,rfl,λ_ _=>rfl⟩
def zj.trans {b:Nat}{x y z:World}(h:zj b x y)(k:zj b y z):zj b x z :=
 ⟨k.os.trans h.os,k.tape.trans h.tape,k.output.trans h.output,k.size.trans h.size,λc hc=>(k.eN c hc).trans (h.eN c hc)⟩
def VN (C:Array Value)(fz:Nat×Nat):Prop:=∀x,x<C.size->¬(fz.1<=x/\x<fz.2)
def cell_of {w:World}{b o:Nat}{C:Array Value}{e:TypeId}{fz:Nat×Nat}(hb:w.heap[b]?=some (.cells C e fz)):w.cell? ⟨b,o,none⟩=C[o]?:=by
 simp[World.cell?,hb]
def N3 {w:World}{b o:Nat}{C:Array Value}{e:TypeId}{fz:Nat×Nat}(hb:w.heap[b]?=some (.cells C e fz))(hf:VN C fz)(ho:o<C.size):w.frozen? ⟨b,o,none⟩=false:=by
 simp only[World.frozen?,hb];have:=hf o ho;rw[Bool.and_eq_false_iff];by_cases h:fz.1<=o
 .right;simp;omega
 .left;simp;omega
def add_eq (b o i:Nat):(⟨b,o,none⟩:Addr).add i=⟨b,o+i,none⟩:=by
 unfold Addr.add;split
 .subst_vars;rfl
 .rfl
def sF {P:Program}[Lay P](b o:Nat)(e:TypeId)(fz:Nat×Nat):∀(vs:List Value)(i:Nat)(w:World)(C:Array Value),w.heap[b]?=some (.cells C e fz) ->
 o+i+vs.length<=C.size->VN C fz->(∀v,v∈vs->v.oneCell'=true) ->
 ∃w' C',(storeCells ⟨b,o,none⟩ vs i).run P w=.ok () w'/\zj b w w'/\w'.heap[b]?=some (.cells C' e fz)/\C'.size=C.size /\
  ∀j,C'[j]?=if o+i<=j/\j<o+i+vs.length then vs[j-(o+i)]? else C[j]?:=by
 intro vs
 induction vs with
 |nil =>
  intro i w C hb _ _ _;refine⟨w,C,rfl,.refl _ _,hb,rfl,λj=>?_⟩;rw[if_neg (by simp)]
 |cons v vs ih =>
  intro i w C hb hl hf h1;simp at hl;have dL:o+i<C.size:=by omega
  have hc:w.cell? ⟨b,o+i,none⟩=some C[o+i]:=by rw[cell_of hb,qJG dL]
  have vC:(w.setCell ⟨b,o+i,none⟩ v).heap[b]?=some (.cells (C.setIfInBounds (o+i) v) e fz):=by
   simp[World.setCell,qVF,hb]
  have ht:zj b w (w.setCell ⟨b,o+i,none⟩ v) :=
   ⟨rfl,rfl,rfl,by simp[World.setCell],λc hc=>by simp only[World.setCell,qVF];rw[if_neg (Ne.symm hc)]⟩
  obtain⟨w',C',hr,J8,aj6,hs,hg⟩:=ih (i+1) (w.setCell ⟨b,o+i,none⟩ v) (C.setIfInBounds (o+i) v) vC (by simp;omega) (by
   intro x hx;simp at hx;exact hf x hx) (λu hu=>h1 u (qZZ _ hu))
  refine⟨w',C',?_,ht.trans J8,aj6,by simpa using hs,λj=>?_⟩
  .unfold storeCells;rw[Sem.run_bind,add_eq,run_store _ _ _ _ _ (h1 v qKD),hc];simp only[N3 hb hf dL,qZJ,if_false,Result.andThen_ok];exact hr
  .rw[hg];by_cases h1:o+(i+1)<=j/\j<o+(i+1)+vs.length
   .rw[if_pos h1,if_pos (by simp;omega)];have:j-(o+i)=(j-(o+(i+1)))+1:=by omega
    rw[this];rfl
   .rw[if_neg h1];by_cases h2:j=o+i
    .subst h2;rw[if_pos (by simp)];simp[qKN dL]
    .rw[if_neg (by simp;omega),qVM (Ne.symm h2)]
def run_loadCells {P:Program}[Lay P]{w:World}{b o n:Nat}{C:Array Value}{e:TypeId}{fz:Nat×Nat}(hb:w.heap[b]?=some (.cells C e fz))(h:o+n<=C.size) :
 (loadCells ⟨b,o,none⟩ n).run P w=.ok (C.extract o (o+n)) w:=by
 have key:∀(m i:Nat)(acc:Array Value),o+i+m<=C.size->(loadCellsFrom ⟨b,o,none⟩ i m acc).run P w=.ok (acc++C.extract (o+i) (o+i+m)) w:=by
  intro m
  induction m with
  |zero=>intro i acc _;simp[loadCellsFrom];omega
  |succ m ih =>
   intro i acc hm;have dL:o+i<C.size:=by omega
   unfold loadCellsFrom;rw[Sem.run_bind,add_eq,run_load];have hc:w.cell? ⟨b,o+i,none⟩=some C[o+i]:=by rw[cell_of hb,qJG dL]
   rw[hc];simp only[Result.andThen_ok];rw[ih (i+1) _ (by omega)];congr 1;apply qKG;simp only[qKX,Array.toList_push,qWF,qVK,qKY];congr 1;have e1:o+i+(m+1)-(o+i)=m+1:=by omega
   have e2:o+(i+1)+m-(o+(i+1))=m:=by omega
   rw[e1,e2]
   have e3:C.toList.drop (o+i)=C[o+i] :: C.toList.drop (o+(i+1)):=by
    rw[List.drop_eq_getElem_cons (by simpa using dL)];rfl
   rw[e3];rfl
 have:=key n 0 #[] (by omega);simpa[loadCells] using this
def Sound (P:Program)[Lay P](s:Sem Next)(K:cu)(W0:World)(ρ:Ren)(w:World)(v:ae)(h':aa):Prop :=
 ∃n v' w' bn,s.run P w=.ok n w'/\(n=.value v'\/n=.skip/\v'=undef)/\ρ.le bn/\V bn v v'/\WR P K W0 bn h' w'
section
variable{E:Env}{P:Program}[Lay P]{K:cu}{W0:World}{ρ:Ren}{fr:Fr}{h:aa}{w:World}{a:Act}
def Sound.still {s:Sem Next}{v:ae}{v':Value}(H:WR P K W0 ρ h w)(hr:s.run P w=.ok (.value v') w)(hv:V ρ v v'):Sound P s K W0 ρ w v h :=
 ⟨_,v',w,ρ,hr,.inl rfl,Ren.le_refl _,hv,H⟩
def UP (hf:FR ρ fr a.tmps)(H:WR P K W0 ρ h w){x:Operand}{c:au}(hx:cO x=some c){v:ae}{h':aa}(hs:I.mv c fr h=some (v,h')) :
 Sound P (pure (.value (a.eval x))) K W0 ρ w v h':=by
 simp only[I.mv,qQJ,qQA]at hs;obtain⟨rfl,rfl⟩:=hs;exact .still H rfl (aB hf hx)
def V.iD {b:Bool}{v:Value}(h:V ρ (.bool b) v):v=.bool b:=by cases h;rfl
def V.eZ {k:IntKind}{n:Int}{v:Value}(h:V ρ (.int k n) v):v=.int k n:=by cases h;rfl
def V.kq {s:List Nat}{v:Value}(h:V ρ (.str s) v):∃bs:ByteArray,v=.string bs/\bs.data.toList.map UInt8.toNat=s:=by cases h;exact⟨_,rfl,by assumption⟩
def V.gv {b o:Nat}{v:Value}(h:V ρ (.ptr b o) v):∃r,ρ b=some r/\v=.pointer (some ⟨r.b,o+r.d,none⟩):=by cases h;exact⟨_,by assumption,rfl⟩
def V.Kx {v:Value}(h:V ρ .dt v):v=.pointer none:=by cases h;rfl
def V.kT {l:List ae}{v:Value}(h:V ρ (.agg l) v):∃l':Array Value,v=.agg l'/\(∀x,x∈l->x.flat=true)/\VL ρ l l'.toList:=by cases h;exact⟨_,rfl,by assumption,by assumption⟩
def V.YI {l:List ae}{v:Value}(h:V ρ (.eC l) v):∃l':Array Value,v=.tuple l'/\VL ρ l l'.toList:=by cases h;exact⟨_,rfl,by assumption⟩
def V.s5 {m:Nat}{v:Value}(h:V ρ (.map m) v):∃r,ρ m=some r/\v=.map (some r.b):=by cases h;exact⟨_,by assumption,rfl⟩
def V.uz {v:Value}(h:V ρ .b8 v):v=.map none:=by cases h;rfl
def V.fF {v:Value}(h:V ρ .af v):v=.slice none 0 0:=by cases h;rfl
def V.xf {t:TypeId}{x:ae}{v:Value}(h:V ρ (.iface t x) v):∃x',v=.iface t x'/\V ρ x x':=by cases h;exact⟨_,rfl,by assumption⟩
def V.En {v:Value}(h:V ρ .dq v):v=.nilIface:=by cases h;rfl
def V.pG {f:FuncId}{x y:List ae}{v:Value}(h:V ρ (.func f x y) v)(dL:Nat.blt f 1000000000=true):∃x' y':Array Value,v=.func (.func f) x' y'/\VL ρ x x'.toList/\VL ρ y y'.toList:=by
 cases h
 .exact⟨_,_,rfl,by assumption,by assumption⟩
 .rw[qJE]at dL;omega
def UQ (hf:FR ρ fr a.tmps)(H:WR P K W0 ρ h w){x y z:Operand}{cx cy cz:au}(hx:cO x=some cx)(hy:cO y=some cy)(hz:cO z=some cz){v:ae}{h':aa}
 (hs:I.pick cx cy cz fr h=some (v,h')):Sound P (do pure (.value (if <-asBool (a.eval x) then a.eval y else a.eval z))) K W0 ρ w v h':=by
 simp only[I.pick,eh,qQJ,qQA]at hs;obtain⟨b,hb,hv,rfl⟩:=hs;have vx:=aB hf hx;rw[hb]at vx;have e:=vx.iD;rw[e];subst hv;refine .still H (v':=if b=true then a.eval y else a.eval z) ?_ ?_
 .simp[asBool]
 .rw[bq];split
  .exact aB hf hy
  .exact aB hf hz
def WR.AD (H:WR P K W0 ρ h w){l:List ae}{C:Array Value}{e:TypeId}(hl:VL ρ l C.toList)(ic:∀x,x∈l->x.flat=true) :
 WR P K W0 (ρ.rB h.next ⟨w.heap.size,0,none,mz⟩) (h.push (.cells l e)) {w with heap:=w.heap.push (.cells C e)}:=by
 have ru:=(H.fresh h.next (qQY _)).1;refine H.push (o:=.cells l e) (r:=⟨w.heap.size,0,none,mz⟩) _ ru (aa.ai _ _) (λm hm=>aa.aA _ _ (Ne.symm hm)) (by simp[aa.bI]) (by simp[aa.bI]) H.nx rfl ?_;have hlen:=hl.length;refine⟨⟨C,(0,0),rfl,by simp at hlen ⊢;omega,λi v hi=>⟨ic v (qQK hi),?_⟩,λz x hz=>by cases hz⟩,λC' fz hC x _=>by cases hC;simp⟩;obtain⟨v',h1,h2⟩:=hl.get hi;exact⟨v',by simpa using h1,h2.mono (Ren.iZ _ ru)⟩
def sr {β:Type}{v:ae}{k:List ae->Option β}{r:β}:fM v k=some r↔(∃l,v=.agg l/\k l=some r)\/(v.flat=true/\k [v]=some r):=by
 constructor
 .intro h;cases v<;>first|exact .inr ⟨rfl,h⟩|exact .inl ⟨_,rfl,h⟩|cases h
 .rintro(⟨l,rfl,h⟩|⟨hv,h⟩)
  .exact h
  .cases v<;>first|exact h|cases hv
def yY {v:ae}{v':Value}(hv:V ρ v v'){β:Type}{k:List ae->Option β}{r:β}(h:fM v k=some r) :
 ∃l,k l=some r/\VL ρ l v'.cells.toList/\(∀x,x∈l->x.flat=true):=by
 rcases sr.1 h with⟨l,rfl,hk⟩|⟨ic,hk⟩
 .obtain⟨l',rfl,h1,h2⟩:=hv.kT;exact⟨l,hk,h2,h1⟩
 .refine⟨[v],hk,?_,by simpa using ic⟩;have:v'.cells=#[v']:=by cases hv<;>first|rfl|cases ic
  rw[this];exact .cons hv .nil
def MF (H:WR P K W0 ρ h w){t:TypeId}{c:au}{x':Value}(hx:V ρ (aJ c fr) x'){v:ae}{h':aa}(hs:I.box t c fr h=some (v,h')) :
 Sound P (do pure (.value (<-(do pure (.pointer (some (<-newVar t x'))):Sem Value)))) K W0 ρ w v h':=by
 obtain⟨l,hk,hl,ic⟩:=yY hx hs;simp only[qQJ,qQA]at hk;obtain⟨rfl,rfl⟩:=hk;have ru:=(H.fresh h.next (qQY _)).1;refine⟨.value (.pointer (some ⟨w.heap.size,0,none⟩)),_,{w with heap:=w.heap.push (.cells x'.cells t)},_,by simp[newVar,newRow],.inl rfl,Ren.iZ _ ru,?_,H.AD (e:=t) hl ic⟩;have:=V.ptr (ρ:=ρ.rB h.next ⟨w.heap.size,0,none,mz⟩) (o:=0) (Ren.fq _ _ _);simpa using this
def qm {place:Nat->Option (Nat×Nat)}{ps':List (Nat×Value)}:∀{ps:List (Nat×Nat×ae)}{cells:List ae}{rL:Array Value}{l:List ae},
 (∃q:List ((Nat×Nat×ae)×(Nat×Value)),q.map (·.1)=ps/\q.map (·.2)=ps'/\∀x,x∈q->place x.2.1=some (x.1.1,x.1.2.1)/\V ρ x.1.2.2 x.2.2) ->
 VL ρ cells rL.toList->(∀x,x∈cells->x.flat=true)->iT ps cells=some l ->
 ∃l':Array Value,Instr.fill place rL ps'=some l'/\VL ρ l l'.toList/\(∀x,x∈l->x.flat=true):=by
 intro ps
 induction ps generalizing ps' with
 |nil =>
  rintro cells rL l ⟨q,h1,h2,_⟩ hv ic hs;cases q with
  |nil =>
   simp at h2;subst h2;simp only[iT,qQJ]at hs;subst hs;exact⟨rL,rfl,hv,ic⟩
  |cons _ _=>simp at h1
 |cons p ps ih =>
  rintro cells rL l ⟨q,h1,h2,h3⟩ hv ic hs;cases q with
  |nil=>simp at h1
  |cons x q =>
   simp only[qZW,qJV]at h1;obtain⟨Ff,hq1⟩:=h1;simp only[qZW]at h2;obtain⟨B5,hxv⟩:=h3 x qKD;have ar:(fM p.2.2 λc=>aO (and (Nat.beq (cJ c) p.2.1) (Nat.ble (Nat.add p.1 p.2.1) (cJ cells))) (iT ps (over cells p.1 c)) none)=some l:=hs;subst Ff;obtain⟨c,hk,kM,hcf⟩:=yY hxv ar;rw[aG]at hk;obtain⟨hb,hk⟩:=hk;simp only[qZQ,qZX,qZB,bV]at hb;obtain⟨DQ,wX⟩:=hb;have aqh:x.1.1+x.1.2.1<=cells.length:=wX;have hlen:=kM.length;have Ag:=hv.length
   have afX:∀(cs:List Value)(j o:Nat)(D:Array Value),o+j+cs.length<=D.size ->
       ∃D':Array Value,(cs.zipIdx j).foldl (λcs (c,j)=>cs.setIfInBounds (o+j) c) D=D'/\D'.size=D.size /\
        ∀i,D'[i]?=if o+j<=i/\i<o+j+cs.length then cs[i-(o+j)]? else D[i]?:=by
    intro cs
    induction cs with
    |nil=>intro j o D _;exact⟨D,rfl,rfl,λi=>by rw[if_neg (by simp)]⟩
    |cons c cs ihc =>
     intro j o D hD;simp at hD;obtain⟨D',e1,e2,e3⟩:=ihc (j+1) o (D.setIfInBounds (o+j) c) (by simp;omega);refine⟨D',by simpa[List.zipIdx_cons] using e1,by simpa using e2,λi=>?_⟩;rw[e3];by_cases g1:o+(j+1)<=i/\i<o+(j+1)+cs.length
     .rw[if_pos g1,if_pos (by simp;omega)];have:i-(o+j)=(i-(o+(j+1)))+1:=by omega
      rw[this];rfl
     .rw[if_neg g1];by_cases g2:i=o+j
      .subst g2;rw[if_pos (by simp)];simp[qKN (show o+j<D.size by omega)]
      .rw[if_neg (by simp;omega),qVM (Ne.symm g2)]
   obtain⟨D',e1,e2,e3⟩:=afX x.2.2.cells.toList 0 x.1.1 rL (by simp at hlen Ag ⊢;omega)
   have agF:VL ρ (over cells x.1.1 c) D'.toList:=by
    refine VL.xB (by rw[ym];simp at Ag ⊢;omega) λi v v' hi tJ=>?_;rw[Ba _ _ _ _ (by omega)]at hi;have GC:D'[i]?=some v':=by simpa using tJ
    rw[e3] at GC;by_cases g:x.1.1<=i/\i<x.1.1+c.length
    .rw[if_pos g]at hi;rw[if_pos (by simp at hlen ⊢;omega)] at GC;obtain⟨u,B7,J9⟩:=kM.get hi;have hz:x.1.1+0=x.1.1:=rfl;rw[hz] at GC;rw[B7] at GC;cases GC;exact J9
    .rw[if_neg g]at hi;rw[if_neg (by simp at hlen ⊢;omega)] at GC;obtain⟨u,B7,J9⟩:=hv.get hi;rw[show rL.toList[i]?=rL[i]? by simp] at B7;rw[B7] at GC;cases GC;exact J9
   have ab9:∀y,y∈over cells x.1.1 c->y.flat=true:=by
    intro y hy;obtain⟨i,hi⟩:=qQL.1 hy;rw[Ba _ _ _ _ (by omega)]at hi;split at hi
    .exact hcf y (qQK hi)
    .exact ic y (qQK hi)
   obtain⟨l',r1,r2,r3⟩:=ih (ps':=q.map (·.2)) ⟨q,hq1,rfl,λy hy=>h3 y (qZZ _ hy)⟩ agF ab9 hk;refine⟨l',?_,r2,r3⟩;rw[<-h2];have kx:x.2=(x.2.1,x.2.2):=rfl;rw[kx];unfold Instr.fill;simp only[B5];rw[if_neg (by simp at hlen Ag;simp;omega)];rw[<-r1];congr 1;rw[<-e1];rw[<-Array.foldl_toList,Array.toList_zipIdx]
def Sound.val {s:Sem Value}{v:ae}{h':aa}{v':Value}{w':World}{bn:Ren}(hr:s.run P w=.ok v' w')(hle:ρ.le bn)(hv:V bn v v')(H:WR P K W0 bn h' w') :
 Sound P (do pure (.value (<-s))) K W0 ρ w v h' :=
 ⟨.value v',v',w',bn,by simp[hr],.inl rfl,hle,hv,H⟩
def Sound.fc {s:Sem Value}{v:ae}{v':Value}(hr:s.run P w=.ok v' w)(hv:V ρ v v')(H:WR P K W0 ρ h w):Sound P (do pure (.value (<-s))) K W0 ρ w v h :=
 .val hr (Ren.le_refl _) hv H
def Sound.unit {s:Sem Unit}{h':aa}{w':World}{bn:Ren}(hr:s.run P w=.ok () w')(hle:ρ.le bn)(H:WR P K W0 bn h' w') :
 Sound P (do s;pure .skip) K W0 ρ w aT h' :=
 ⟨.skip,undef,w',bn,by simp[hr],.inr ⟨rfl,rfl⟩,hle,wx _,H⟩
def bl.zero (hE:bl E P){t:TypeId}{z:ae}(hz:zeroV E t=some z):∃zv,(∀w,(zeroValue t).run P w=.ok zv w)/\∀ρ,V ρ z zv:=by
 simp only[zeroV,qQV,qQQ]at hz;obtain⟨i,hi,zv,hzv,hcv⟩:=hz;refine⟨zv,λw=>?_,λρ=>Gf _ _ _ hcv⟩;unfold zeroValue;simp[run_typeInfo w (hE.info _ _ hi),hzv]
def bl.lG (hE:bl E P){t:TypeId}{z:List ae×Nat}(hz:lG E t=some z) :
 ∃zv,(∀w,(zeroValue t).run P w=.ok zv w)/\(∀w,(sizeOf t).run P w=.ok z.2 w)/\P.cellsOf t=z.2/\(∀ρ,VL ρ z.1 zv.cells.toList)/\(∀x,x∈z.1->x.flat=true)/\z.1.length=z.2:=by
 simp only[AX.lG,qQV,qQQ]at hz;obtain⟨zz,h1,n,h2,h3⟩:=hz;split at h3
 .rename_i hc;cases h3;obtain⟨zv,hr,hv⟩:=hE.zero h1;have ic:∀x,x∈zz.cells->x.flat=true:=λx hx=>by simpa using List.all_eq_true.1 hc.2 x hx
  refine⟨zv,hr,λw=>hE.gy h2 w,hE.cellsOf h2,λρ=>?_,ic,hc.1⟩;have:=hv ρ;cases zz with
  |agg l=>obtain⟨l',rfl,_,h⟩:=this.kT;exact h
  |eC l=>have:=ic (.eC l) (by simp[ae.cells]);cases this
  |_ =>
   have e:zv.cells=#[zv]:=by cases this<;>rfl
   rw[e];exact .cons this .nil
 .cases h3
def SE {α:Type}(zs:List α):∀(c i:Nat),(List.replicate c zs).flatten[i]?=if i<c*zs.length then zs[i % zs.length]? else none:=by
 intro c
 induction c with
 |zero=>intro i;simp
 |succ c ih =>
  intro i;rw[qVB,qZA];by_cases h1:i<zs.length
  .rw[qQN h1,Nat.mod_eq_of_lt h1,if_pos];rw[Nat.succ_mul];omega
  .rw[qVC (by omega),ih];have e:(c+1)*zs.length=c*zs.length+zs.length:=Nat.succ_mul _ _;by_cases h2:i-zs.length<c*zs.length
   .rw[if_pos h2,if_pos (by omega)]
    have:(i-zs.length) % zs.length=i % zs.length:=by
     rw[Nat.mod_eq_sub_mod (a:=i) (by omega)]
    rw[this]
   .rw[if_neg h2,if_neg (by omega)]
def sO {z:List ae}{zc:Array Value}(hz:VL ρ z zc.toList)(c n:Nat)(hn:z.length=n) :
 VL ρ (List.replicate c z).flatten ((Array.range (c*n)).map (zc[· % zc.size]!)).toList:=by
 have hlen:z.length=zc.size:=by have:=hz.length;simpa using this
 refine VL.xB (by simp[hn]) λi v v' hi tJ=>?_;rw[SE]at hi;split at hi
 .rename_i dL;obtain⟨u,B7,J9⟩:=hz.get hi
  have DY:0<zc.size:=by
   rcases Nat.eq_zero_or_pos zc.size with h0|h0
   .rw[hlen,h0]at dL;simp at dL
   .exact h0
  have:v'=u:=by
   rw[hlen] at B7;have hm:i % zc.size<zc.size:=Nat.mod_lt _ DY;rw[hn]at dL;simp[dL]at tJ;simp at B7;rw[<-tJ];rw[getElem!_def,B7]
  rw[this];exact J9
 .cases hi
def qU {z:List ae}(hz:∀x,x∈z->x.flat=true)(c:Nat):∀x,x∈(List.replicate c z).flatten->x.flat=true:=by
 intro x hx;simp only[qJD,List.mem_replicate]at hx;obtain⟨l,⟨_,rfl⟩,hx⟩:=hx;exact hz x hx
def HJ (hf:FR ρ fr a.tmps){place:Nat->Option (Nat×Nat)}:∀{parts:List (Nat×Operand)}{ps:List (Nat×Nat×au)},
 parts.mapM (λ(i,x)=>do let(o,n) <-place i;let x <-cO x;pure (o,n,x))=some ps ->
 ∃q:List ((Nat×Nat×ae)×(Nat×Value)),q.map (·.1)=I.fE ps fr/\q.map (·.2)=parts.map (λ(i,x)=>(i,a.eval x))/\∀x,x∈q->place x.2.1=some (x.1.1,x.1.2.1)/\V ρ x.1.2.2 x.2.2:=by
 intro parts
 induction parts with
 |nil=>intro ps hp;simp at hp;subst hp;exact⟨[],rfl,rfl,λ_ h=>by cases h⟩
 |cons p parts ih =>
  intro ps hp;obtain⟨i,x⟩:=p;simp only[qZF,qQV,qQQ]at hp;obtain⟨r,⟨on,h1,cx,h2,h3⟩,rs,h4,h5⟩:=hp;cases h3;cases h5;obtain⟨q,q1,q2,q3⟩:=ih h4;refine⟨((on.1,on.2,aJ cx fr),(i,a.eval x)) :: q,?_,by simp[q2],?_⟩
  .simp only[qZW,q1];rfl
  .intro y hy;rcases qQF.1 hy with rfl|hy
   .exact⟨h1,aB hf h2⟩
   .exact q3 y hy
def lX (hf:FR ρ fr a.tmps){place:Nat->Option (Nat×Nat)}{parts:Array (Nat×Operand)}{ps:List (Nat×Nat×au)}(hp:Dv place parts=some ps) :
 ∃q:List ((Nat×Nat×ae)×(Nat×Value)),q.map (·.1)=I.fE ps fr/\q.map (·.2)=(parts.map λ(i,x)=>(i,a.eval x)).toList/\∀x,x∈q->place x.2.1=some (x.1.1,x.1.2.1)/\V ρ x.1.2.2 x.2.2:=by
 obtain⟨q,h1,h2,h3⟩:=HJ hf hp;exact⟨q,h1,by rw[h2];simp,h3⟩
def yU (hE:bl E P):∀(fields:List Field)(w:World),(∀f,f∈fields->∃n,E.size f.type=some n) ->
 (fields.mapM λf=>(do pure (f.offset,<-sizeOf f.type):Sem (Nat×Nat))).run P w=.ok (fields.map λf=>(f.offset,P.cellsOf f.type)) w:=by
 intro fields
 induction fields with
 |nil=>intro w _;rfl
 |cons f fields ih =>
  intro w hs;obtain⟨n,hn⟩:=hs f qKD;rw[qZF];simp only[Sem.run_bind,hE.gy hn,Result.andThen_ok,Sem.run_pure];rw[ih w (λg hg=>hs g (qZZ _ hg))];simp[hE.cellsOf hn]
def tl (E:Env)(P:Program)[Lay P](K:cu)(W0:World)(op:Op):Prop :=
 ∀{ρ:Ren}{fr:Fr}{h:aa}{w:World}{a:Act}{o:Oper}{co:dS}{v:ae}{h':aa},o.op=op->iJ E op=some co->FR ρ fr a.tmps->WR P K W0 ρ h w ->
  aC co fr h=some (v,h')->Sound P (execOp a.eval o) K W0 ρ w v h'
def O5 (hE:bl E P)(t:TypeId):tl E P K W0 (.alloc t):=by
 intro ρ fr h w a o co v h' ho hc hf H hs;simp only[iJ,qQV,qQQ]at hc;obtain⟨z,hz,hc⟩:=hc;cases hc;obtain⟨zv,hr,hv⟩:=hE.zero hz;have:=MF (P:=P) (K:=K) (W0:=W0) (t:=t) H (c:=.c z) (hv ρ) hs;obtain⟨n,v',w',bn,h1,h2⟩:=this;refine⟨n,v',w',bn,?_,h2⟩;unfold execOp;rw[ho];simp only[Instr.alloc,Sem.run_bind,hr,Result.andThen_ok]at h1 ⊢;exact h1
def Yc (t:TypeId)(x:Operand):tl E P K W0 (.box t x):=by
 intro ρ fr h w a o co v h' ho hc hf H hs;simp only[iJ,qQV,qQQ]at hc;obtain⟨c,hx,hc⟩:=hc;cases hc;unfold execOp;rw[ho];exact MF H (aB hf hx) hs
def O6 (hE:bl E P)(t:TypeId)(parts:Array (Nat×Operand)):tl E P K W0 (.build t parts):=by
 intro ρ fr h w a o co v h' ho hc hf H hs;simp only[iJ,qQV,qQQ]at hc;obtain⟨z,hz,d,hd,hc⟩:=hc;obtain⟨zv,hr,iq,ny,hv,ic,hlen⟩:=hE.lG hz;cases d with
 |struct fields =>
  simp only[qQQ]at hc;obtain⟨ps,J5,hc⟩:=hc;split at hc
  .rename_i jm;cases hc;have ar:ob (iT (I.fE ps fr) z.1) (λl=>some (.agg l,h))=some (v,h'):=hs;rw[av]at ar;obtain⟨l,hl,he⟩:=ar;simp only[qQJ,qQA]at he;obtain⟨rfl,rfl⟩:=he;obtain⟨q,q1,q2,q3⟩:=lX hf J5
   have hfs:∀f,f∈fields.toList->∃n,E.size f.type=some n:=by
    intro f Xp;have:=Array.all_eq_true_iff_forall_mem.1 jm f (by simpa using Xp);exact qWZ.1 this
   obtain⟨l',e1,e2,e3⟩:=qm (place:=λi=>(fields.map λf=>(f.offset,P.cellsOf f.type))[i]?) ⟨q,q1,q2,λx hx=>by
    obtain⟨g1,g2⟩:=q3 x hx;refine⟨?_,g2⟩;simp only[qQQ]at g1;obtain⟨f,hf1,n,hn,he⟩:=g1;simp only[qQJ,qQA]at he;simp[hf1,<-he.1,<-he.2,hE.cellsOf hn]⟩ (hv ρ) ic hl
   unfold execOp;rw[ho];refine .fc (v':=.agg l') ?_ (.agg e3 e2) H;unfold Instr.build;simp only[Sem.run_bind,hr,Result.andThen_ok,hE.bz hd]
   have hm:(fields.mapM λf=>(do pure (f.offset,<-sizeOf f.type):Sem (Nat×Nat))).run P w=.ok (fields.map λf=>(f.offset,P.cellsOf f.type)) w:=by
    rw[Array.mapM_eq_mapM_toList];simp only[Sem.run_map,yU hE _ _ hfs,Result.andThen_ok];congr 1;apply qKG;simp
   rw[hm];simp only[Result.andThen_ok,e1,Sem.run_pure]
  .cases hc
 |array len elem =>
  simp only[qQQ]at hc;obtain⟨n,hn,ps,J5,hc⟩:=hc;cases hc;have ar:ob (iT (I.fE ps fr) z.1) (λl=>some (.agg l,h))=some (v,h'):=hs;rw[av]at ar;obtain⟨l,hl,he⟩:=ar;simp only[qQJ,qQA]at he;obtain⟨rfl,rfl⟩:=he;obtain⟨q,q1,q2,q3⟩:=lX hf J5;obtain⟨l',e1,e2,e3⟩:=qm (place:=λi=>some (i*n,n)) ⟨q,q1,q2,q3⟩ (hv ρ) ic hl;unfold execOp;rw[ho];refine .fc (v':=.agg l') ?_ (.agg e3 e2) H;unfold Instr.build;simp only[Sem.run_bind,hr,Result.andThen_ok,Sem.run_pure,hE.bz hd,hE.gy hn,e1]
 |_=>simp at hc
def A1 (hE:bl E P)(t:TypeId)(len:Nat)(parts:Array (Nat×Operand)):tl E P K W0 (.buildSlice t len parts):=by
 intro ρ fr h w a o co v h' ho hc hf H hs;simp only[iJ,qQV,qQQ]at hc;obtain⟨d,hd,hc⟩:=hc;split at hc
 case h_2=>cases hc
 rename_i elem;simp only[qQQ]at hc;obtain⟨z,hz,ps,J5,hc⟩:=hc;split at hc
 case isFalse=>cases hc
 rename_i hle;cases hc;obtain⟨zv,hr,iq,ny,hv,ic,hlen⟩:=hE.lG hz;have ar:ob (iT (I.fE ps fr) (sy len z.1)) (λl=>some (.slice h.next 0 len len true,h.push (.cells l elem)))=some (v,h'):=hs;rw[av,zd]at ar;obtain⟨l,hl,he⟩:=ar;simp only[qQJ,qQA]at he;obtain⟨rfl,rfl⟩:=he;obtain⟨q,q1,q2,q3⟩:=lX hf J5;obtain⟨l',e1,e2,e3⟩:=qm (place:=λi=>some (i*z.2,z.2)) ⟨q,q1,q2,q3⟩ (sO (hv ρ) len z.2 hlen) (qU ic len) hl;have ru:=(H.fresh h.next (qQY _)).1;unfold execOp;rw[ho];refine .val (v':=.slice (some ⟨w.heap.size,0,none⟩) len len) (w':={w with heap:=w.heap.push (.cells l' elem)}) ?_ (Ren.iZ ⟨w.heap.size,0,none,mz⟩ ru) ?_ (H.AD (e:=elem) e2 e3)
 .unfold Instr.buildSlice;simp only[Sem.run_bind,hE.bz hd,Result.andThen_ok,iq]
  rw[if_neg (by have:(2:Nat)^20<=2^24:=by decide
                omega)]
  by_cases h0:len*z.2=0
  .rw[if_pos h0];have e4:(Array.range (len*z.2)).map (λi=>zv.cells[i % zv.cells.size]!)=(Array.range (len*z.2)).map (λi=>(#[]:Array Value)[i % (#[]:Array Value).size]!):=by rw[h0];simp
   rw[e4]at e1;simp only[Sem.run_bind,Sem.run_pure,Result.andThen_ok,e1,newRow,run_newObj]
  .rw[if_neg h0];simp only[Sem.run_bind,Sem.run_pure,Result.andThen_ok,hr,e1,newRow,run_newObj]
 .have:=V.slice (ρ:=ρ.rB h.next ⟨w.heap.size,0,none,mz⟩) (o:=0) (n:=len) (c:=len) (c':=len) (ex:=true) (Ren.fq _ _ _) (qQY _) (λ_=>rfl) (λh=>by cases h);simpa using this
def uU (o:Option aE)(l:List ae)(e:TypeId)(own:Bool):Prop:=(own=true/\o=some (.cells l e))\/(own=false/\o=some (.ro l e))
def fw {β:Type}{o:Option aE}{k:List ae->TypeId->Bool->Option β}{r:β}(h:eJ o k=some r):∃l e own,uU o l e own/\k l e own=some r:=by
 rcases KJ.1 h with⟨l,e,h1,h2⟩|⟨l,e,h1,h2⟩
 .exact⟨l,e,true,.inl ⟨rfl,h1⟩,h2⟩
 .exact⟨l,e,false,.inr ⟨rfl,h1⟩,h2⟩
def nZ {own:Bool}{l:List ae}:yk own l=true↔own=true\/∀x,x∈l->x.flat=true:=by
 cases own with
 |true=>simp[yk,aO]
 |false =>
  have h:∀l:List ae,(@List.rec ae (λ_=>Bool) true (λv _ ih=>aO v.flat ih false) l)=true↔∀x,x∈l->x.flat=true:=by
   intro l
   induction l with
   |nil=>simp
   |cons v l ih =>
    show aO v.flat _ false=true↔_;cases hv:v.flat with
    |true=>simpa[aO,hv] using ih
    |false=>simp[aO,hv]
  simpa[yk,aO] using h l
def za {own:Bool}{v:ae}:HG own v=true↔own=true\/v.flat=true:=by
 cases own<;>simp[HG,aO]
def iR (H:WR P K W0 ρ h w){b:Nat}{r:RB}{l:List ae}{e:TypeId}{own:Bool}(hb:uU (h.get b) l e own)(hr:ρ b=some r) :
 ∃C fz,w.heap[r.b]?=some (.cells C e fz)/\(own=true->VN C fz)/\r.d+l.length<=C.size/\(∀(i:Nat) v,l[i]?=some v->(own=true\/v.flat=true)->v.flat=true/\∃v',C[r.d+i]?=some v'/\V ρ v v') /\
  (∀z x,r.k=some (z,x)->r.d+x<=C.size/\P.cellsOf e=z)/\(own=true->¬K r.b):=by
 rcases hb with⟨rfl,hb⟩|⟨rfl,hb⟩
 .obtain⟨s,hs,hk,⟨C,fz,h1,h3,h4,h5⟩,h2⟩:=H.obj b _ hb trivial;rw[hr]at hs;cases hs;exact⟨C,fz,h1,λ_=>h2 C fz h1,h3,λi v hi _=>h4 i v hi,h5,λ_=>hk trivial⟩
 .obtain⟨s,hs,hk,C,fz,h1,h3,h4,h5⟩:=H.obj b _ hb trivial;rw[hr]at hs;cases hs;exact⟨C,fz,h1,(λh=>by cases h),h3,(λi v hi ho=>ho.elim (λh=>by cases h) λho=>⟨ho,h4 i v hi ho⟩),h5,(λh=>by cases h)⟩
def tj {own:Bool}{l:List ae}{C:Array Value}{d o n:Nat}(hc:∀i v,l[i]?=some v->(own=true\/v.flat=true)->v.flat=true/\∃v',C[d+i]?=some v'/\V ρ v v')(hd:d+l.length<=C.size)(hn:o+n<=l.length)(kN:own=true\/∀x,x∈(l.drop o).take n->x.flat=true) :
 VL ρ ((l.drop o).take n) (C.extract (o+d) (o+d+n)).toList/\(∀x,x∈(l.drop o).take n->x.flat=true):=by
 constructor
 .refine VL.xB (by simp;omega) λi v v' hi tJ=>?_;have eE:=qQK hi;rw[qVW]at hi;split at hi
  .rename_i dL;rw[qXZ]at hi;obtain⟨_,u,B7,J9⟩:=hc _ _ hi (kN.imp id λh=>h _ eE)
   have:C[o+d+i]?=some v':=by
    rw[<-tJ];simp only[qVG,Array.getElem?_extract];rw[if_pos (by omega)]
   rw[show o+d+i=d+(o+i) by omega,B7]at this;cases this;exact J9
  .cases hi
 .intro x hx;obtain⟨i,hi⟩:=qQL.1 (List.mem_of_mem_drop (qKH hx));exact(hc i x hi (kN.imp id λh=>h _ hx)).1
def kO (hE:bl E P)(H:WR P K W0 ρ h w){t:TypeId}{b o:Nat}{r:RB}(hr:ρ b=some r){l:List ae}{e:TypeId}{own:Bool}(hb:uU (h.get b) l e own) :
 (∀n,iV E t=some true->E.size t=some n->o+n<=l.length->(own=true\/∀x,x∈(l.drop o).take n->x.flat=true)->∃v',(loadVar t ⟨r.b,o+r.d,none⟩).run P w=.ok v' w/\V ρ (.agg ((l.drop o).take n)) v') /\
 (∀v,iV E t=some false->l[o]?=some v->(own=true\/v.flat=true)->∃v',(loadVar t ⟨r.b,o+r.d,none⟩).run P w=.ok v' w/\V ρ v v'):=by
 obtain⟨C,fz,hC,DR,hd,hc,_,_⟩:=iR H hb hr;constructor
 .intro n SR hn hle kN;obtain⟨h1,h2⟩:=tj hc hd hle kN;refine⟨.agg (C.extract (o+r.d) (o+r.d+n)),?_,.agg h2 h1⟩;unfold loadVar;simp only[Sem.run_bind,hE.tf SR,Result.andThen_ok,if_true,hE.gy hn];rw[run_loadCells hC (by omega)];rfl
 .intro v SR hv kN;obtain⟨_,v',h1,h2⟩:=hc _ _ hv kN;refine⟨v',?_,h2⟩;unfold loadVar;simp only[Sem.run_bind,hE.tf SR,Result.andThen_ok,qZJ,if_false,run_load];rw[cell_of hC,show o+r.d=r.d+o by omega,h1]
def Um (hE:bl E P)(t:TypeId)(x:Operand):tl E P K W0 (.load t x):=by
 intro ρ fr h w a o co v h' ho hc hf H hs;simp only[iJ,qQV,qQQ]at hc;obtain⟨g,hg,hc⟩:=hc;have hx:execOp a.eval o=(do pure (.value (<-Instr.loadAt t (a.eval x)))):=by unfold execOp;rw[ho]
 rw[hx];cases g with
 |true =>
  simp only[if_true,qQQ]at hc;obtain⟨n,hn,c,fX,hc⟩:=hc;cases hc;simp only[aC,I.fJ,cZ]at hs;obtain⟨b,off,hp,hs⟩:=hs;obtain⟨l,e,own,hb,hs⟩:=fw hs;rw[aG]at hs;obtain⟨hle,hv⟩:=hs;simp only[qQJ,qQA]at hv;obtain⟨rfl,rfl⟩:=hv;have vx:=aB hf fX;rw[hp]at vx;obtain⟨r,hr,e2⟩:=vx.gv;simp only[bV,qZQ,qZB,nZ,cW,df]at hle;obtain⟨v',h1,h2⟩:=(kO hE H (t:=t) hr hb).1 n hg hn hle.1 hle.2;rw[cW,df];refine .fc (v':=v') ?_ h2 H;rw[e2];simp only[Instr.loadAt,Instr.sureAddr,Sem.run_bind,Sem.run_pure,Result.andThen_ok,h1]
 |false =>
  simp only[qZJ,if_false,qQQ]at hc;obtain⟨c,fX,hc⟩:=hc;cases hc;simp only[aC,I.ct,cZ]at hs;obtain⟨b,off,hp,hs⟩:=hs;obtain⟨l,e,own,hb,hs⟩:=fw hs;simp only[av,fT,aG,za]at hs;obtain⟨u,hu,kN,hv⟩:=hs;simp only[qQJ,qQA]at hv;obtain⟨rfl,rfl⟩:=hv;have vx:=aB hf fX;rw[hp]at vx;obtain⟨r,hr,e2⟩:=vx.gv;obtain⟨v',h1,h2⟩:=(kO hE H (t:=t) hr hb).2 u hg hu kN;refine .fc (v':=v') ?_ h2 H;rw[e2];simp only[Instr.loadAt,Instr.sureAddr,Sem.run_bind,Sem.run_pure,Result.andThen_ok,h1]
def yl {ρ:Ren}{v:ae}{v':Value}(h:V ρ v v')(hf:v.flat=true):v'.oneCell'=true:=by
 cases h<;>first|rfl|cases hf
def mX (H:WR P K W0 ρ h w){b o:Nat}{r:RB}(hr:ρ b=some r){l:List ae}{e:TypeId}(hb:h.get b=some (.cells l e)){vs:List ae}{vs':List Value}
 (hv:VL ρ vs vs') (ic:∀x,x∈vs->x.flat=true) (hle:o+vs.length<=l.length) :
 ∃w',(storeCells ⟨r.b,o+r.d,none⟩ vs').run P w=.ok () w'/\WR P K W0 ρ (h.put b (.cells (over l o vs) e)) w':=by
 obtain⟨C,fz,hC,DR,hd,hc,hz,_⟩:=iR H (own:=true) (.inl ⟨rfl,hb⟩) hr;have DR:=DR rfl;have hlen:=hv.length
 obtain⟨w',C',h1,ht,h2,h3,h4⟩:=sF (P:=P) r.b (o+r.d) e fz vs' 0 w C hC (by omega) DR (by
  intro v tM;obtain⟨i,hi⟩:=qQL.1 tM;obtain⟨u,B7,J9⟩:=hv.get' hi;exact yl J9 (ic u (qQK B7)))
 refine⟨w',h1,H.put hb trivial hr ht.os ht.tape ht.output ht.size ht.eN λ_=>?_⟩;refine⟨⟨C',fz,h2,by rw[ym];omega,λi v hi=>?_,λz x VF=>by rw[h3];exact hz z x VF⟩,λD fz' hD x hx=>by rw[h2]at hD;cases hD;exact DR x (by omega)⟩;rw[Ba _ _ _ _ hle]at hi;rw[h4];split at hi
 .rename_i hin;obtain⟨u,B7,J9⟩:=hv.get hi;refine⟨ic v (qQK hi),u,?_,J9⟩;rw[if_pos (by omega),<-B7];congr 1;omega
 .rename_i hin;rw[if_neg (by omega)];exact hc i v hi (.inl rfl)
def Pc (hE:bl E P)(t:TypeId)(x y:Operand):tl E P K W0 (.store t x y):=by
 intro ρ fr h w a o co v h' ho hc hf H hs;simp only[iJ,qQV,qQQ]at hc;obtain⟨n,hn,cx,fX,cy,hcy,hc⟩:=hc;cases hc;have hx:execOp a.eval o=(do Instr.storeAt t (a.eval x) (a.eval y);pure .skip):=by unfold execOp;rw[ho]
 rw[hx];simp only[aC,I.store,cZ,ki]at hs;obtain⟨b,off,hp,l,e,hb,hs⟩:=hs;obtain⟨vs,hk,D3,ic⟩:=yY (aB hf hcy) hs;rw[aG]at hk;obtain⟨hc,hk⟩:=hk;simp only[qZQ,qZX,qZB,bV]at hc;simp only[qQJ,qQA]at hk;obtain⟨rfl,rfl⟩:=hk;have vx:=aB hf fX;rw[hp]at vx;obtain⟨r,hr,e2⟩:=vx.gv;obtain⟨w',h1,h2⟩:=mX H hr hb D3 ic (by rw[hc.1];exact hc.2);refine .unit ?_ (Ren.le_refl _) h2;rw[e2];have hlen:=D3.length;simp only[Instr.storeAt,Instr.sureAddr,Sem.run_bind,Sem.run_pure,Result.andThen_ok,storeVar,hE.gy hn];rw[if_neg (by simp at hlen;omega)];exact h1
def EG (x:Operand):tl E P K W0 (.nilCheck x):=by
 intro ρ fr h w a o co v h' ho hc hf H hs;simp only[iJ,qQV,qQQ]at hc;obtain⟨cx,fX,hc⟩:=hc;cases hc;have vx:=aB hf fX;have ar:I.nilCheck cx fr h=some (v,h'):=hs;unfold I.nilCheck at ar;generalize hq:aJ cx fr=q at vx ar;generalize tM:a.eval x=v' at vx;cases vx<;>simp at ar<;>obtain⟨rfl,rfl⟩:=ar
 .refine .still H (v':=a.eval x) ?_ (by rw[tM];exact .ptr (by assumption));unfold execOp;simp only[ho,tM];rfl
 .refine .still H (v':=a.eval x) ?_ (by rw[tM];exact .func (by assumption) (by assumption) (by assumption));unfold execOp;simp only[ho,tM];rfl
 .refine .still H (v':=a.eval x) ?_ (by rw[tM];exact .yld (by assumption));unfold execOp;simp only[ho,tM];rfl
 .refine .still H (v':=a.eval x) ?_ (by rw[tM];exact .iface (by assumption));unfold execOp;simp only[ho,tM];rfl
end
def lK (a b:Int):NI a b=(a == b):=by
 cases a with
 |ofNat x=>cases b with
  |ofNat y =>
   show Nat.beq x y=_;rw[qZL,qZX,beq_iff_eq];exact⟨λh=>by rw[h],λh=>by injection h⟩
  |negSucc y=>rfl
 |negSucc x=>cases b with
  |ofNat y=>rfl
  |negSucc y =>
   show Nat.beq x y=_;rw[qZL,qZX,beq_iff_eq];exact⟨λh=>by rw[h],λh=>by injection h⟩
def lN (a b:Int):Km a b=decide (a<b):=by
 cases a with
 |ofNat x=>cases b with
  |ofNat y =>
   show Nat.blt x y=_;rw[qZL,qJE,decide_eq_true_iff];exact⟨λh=>by simpa using h,λh=>by simpa using h⟩
  |negSucc y=>show false=_;symm;rw[decide_eq_false_iff_not];simp only[qJN];omega
 |negSucc x=>cases b with
  |ofNat y=>show true=_;symm;rw[decide_eq_true_iff];simp only[qJN];omega
  |negSucc y =>
   show Nat.blt y x=_;rw[qZL,qJE,decide_eq_true_iff];omega
def Bt (a b:Nat):yu a b=(a:Int)-(b:Int):=by
 unfold yu;rw[bq];by_cases h:b<=a
 .rw[if_pos (by simpa using h)];simp only[qJN,Nat.sub_eq];omega
 .rw[if_neg (by simpa using h)];simp only[Nat.sub_eq];omega
def Dk (a b:Int):V0 a b=a+b:=by
 cases a with
 |ofNat x=>cases b with
  |ofNat y=>rfl
  |negSucc y=>show yu x (y+1)=_;rw[Bt];simp only[qJN];omega
 |negSucc x=>cases b with
  |ofNat y=>show yu y (x+1)=_;rw[Bt];simp only[qJN];omega
  |negSucc y=>show Int.negSucc (x+y+1)=_;omega
def Mp (b:Int):acK b=0-b:=by
 cases b with
 |ofNat y=>show yu 0 y=_;rw[Bt];simp only[qJN];omega
 |negSucc y=>show Int.ofNat (y+1)=_;simp only[qJN];omega
def MH (a b:Int):YG a b=a-b:=by unfold YG;rw[Dk,Mp];omega
def uf (a b:IntKind):NJ a b=decide (a=b):=by cases a<;>cases b<;>rfl
def Vf (H:Int)(m:Nat)(h:(m:Int)<H):(if Int.negSucc m % (2*H)>=H then Int.negSucc m % (2*H)-2*H else Int.negSucc m % (2*H))=Int.negSucc m:=by
 have e:Int.negSucc m % (2*H)=2*H-1-m:=by
  have h1:Int.negSucc m=(2*H-1-m)+(2*H)*(-1):=by omega
  rw[h1,Int.add_mul_emod_self_left];exact Int.emod_eq_of_lt (by omega) (by omega)
 rw[e,if_pos (by omega)];omega
def Is (k:IntKind)(hk:k.signed=true)(n:Int):k.wrap n=if n % (2 ^ k.bits:Int)>=(2 ^ (k.bits-1):Int) then n % (2 ^ k.bits:Int)-(2 ^ k.bits:Int) else n % (2 ^ k.bits:Int):=by
 unfold IntKind.wrap;simp only[hk,Bool.true_and,decide_eq_true_eq]
def tk (k:IntKind)(hk:k.signed=true)(m:Nat)(H:Nat)(hH:(2 ^ (k.bits-1):Int)=H)(h2:(2 ^ k.bits:Int)=2*H) :
 (if Nat.blt m H=true then Int.negSucc m else k.wrap (Int.negSucc m))=k.wrap (Int.negSucc m):=by
 by_cases h:Nat.blt m H=true
 .rw[if_pos h,Is k hk,hH,h2];exact(Vf H m (by simpa using h)).symm
 .rw[if_neg h]
def ia (k:IntKind)(n:Int):jt k n=k.wrap n:=by
 cases n with
 |ofNat m =>
  cases k<;>simp only[jt,bq]<;>first
   |(split
     .rename_i h;simp only[qJE]at h;simp only[IntKind.wrap,IntKind.bits,IntKind.signed,qJN,Bool.true_and,decide_eq_true_eq,ge_iff_le];rw[if_neg (by omega)];omega
     .rfl)
   |(simp only[IntKind.wrap,IntKind.bits,IntKind.signed,qJN,Bool.false_and,qZJ,if_false]
     exact Int.natCast_emod m _)
 |negSucc m =>
  cases k
  .exact(bq _ _ _).trans (tk .i8 rfl m 128 (by decide) (by decide))
  .exact(bq _ _ _).trans (tk .i16 rfl m 32768 (by decide) (by decide))
  .exact(bq _ _ _).trans (tk .i32 rfl m 2147483648 (by decide) (by decide))
  .exact(bq _ _ _).trans (tk .i64 rfl m 9223372036854775808 (by decide) (by decide))
  all_goals rfl
def jC:∀a b:List Nat,eqStr a b=decide (a=b)
 |[],[]=>rfl
 |[],_ :: _=>rfl
 |_ :: _,[]=>rfl
 |x :: a,y :: b=>by
  show aO (Nat.beq x y) (eqStr a b) false=_;rw[bq,jC a b];by_cases h:x=y<;>simp[h]
def Ca {a b:List UInt8}(h:a.map UInt8.toNat=b.map UInt8.toNat):a=b:=by
 induction a generalizing b with
 |nil=>cases b<;>simp_all
 |cons x a ih=>cases b with
  |nil=>simp at h
  |cons y b =>
   simp only[qZW,qJV]at h;rw[UInt8.toNat_inj.1 h.1,ih h.2]
def lh {x y:ByteArray}{a b:List Nat}(hx:x.data.toList.map UInt8.toNat=a)(hy:y.data.toList.map UInt8.toNat=b):eqStr a b=(x.toList == y.toList):=by
 rw[jC,ByteArray.toList_eq,ByteArray.toList_eq,<-hx,<-hy,qZL,decide_eq_true_iff,beq_iff_eq];exact⟨Ca,λh=>by rw[h]⟩
def Hj:∀a b:List UInt8,ltStr (a.map UInt8.toNat) (b.map UInt8.toNat)=Op.bytesLess a b
 |[],[]=>rfl
 |[],_ :: _=>rfl
 |_ :: _,[]=>rfl
 |x :: a,y :: b=>by
  show aO (Nat.blt x.toNat y.toNat) true (aO (Nat.beq x.toNat y.toNat) (ltStr (a.map UInt8.toNat) (b.map UInt8.toNat)) false)=_;rw[Hj a b];simp only[bq,Op.bytesLess,qJE,qZX,UInt8.toNat_inj,UInt8.lt_iff_toNat_lt];by_cases h1:x.toNat<y.toNat
  .simp[h1]
  .by_cases h2:x=y
   .subst h2;simp
   .simp[h1,h2]
def nV {x y:ByteArray}{a b:List Nat}(hx:x.data.toList.map UInt8.toNat=a)(hy:y.data.toList.map UInt8.toNat=b):ltStr a b=Op.bytesLess x.toList y.toList:=by
 rw[ByteArray.toList_eq,ByteArray.toList_eq,<-hx,<-hy,Hj]
section
variable{E:Env}{P:Program}[Lay P]{K:cu}{W0:World}{ρ:Ren}{fr:Fr}{h:aa}{w:World}{a:Act}
def vL (a b:Bool):aO a b (not b)=(a == b):=by cases a<;>cases b<;>rfl
def mC {k:FK}{x y:ae}{x' y':Value}{b:Bool}(hx:V ρ x x')(hy:V ρ y y')(h:jM k x y=some b):EqF k x' y' b:=by
 cases k with
 |b =>
  simp only[jM,eh,qQJ]at h;obtain⟨p,rfl,q,rfl,h⟩:=h;rw[hx.iD,hy.iD];exact⟨p,q,rfl,rfl,by rw[<-h,vL]⟩
 |i =>
  simp only[jM,fA,aG,qQJ]at h;obtain⟨k,p,rfl,k',q,rfl,hk,h⟩:=h;rw[uf,decide_eq_true_iff]at hk;subst hk;rw[hx.eZ,hy.eZ];exact⟨k,p,q,rfl,rfl,by rw[<-h,lK]⟩
 |s =>
  simp only[jM,fB,qQJ]at h;obtain⟨p,rfl,q,rfl,h⟩:=h;obtain⟨bx,rfl,ex⟩:=hx.kq;obtain⟨P',rfl,ey⟩:=hy.kq;exact⟨bx,P',rfl,rfl,by rw[<-h,lh ex ey]⟩
def tA {x y:List ae}{x' y':Array Value}(hx:VL ρ x x'.toList)(hy:VL ρ y y'.toList):∀{eU:List (Nat×FK)}{b:Bool},sW x y eU=some b->tX x' y' eU b:=by
 intro eU
 induction eU with
 |nil=>intro b h;simp only[sW,qQJ]at h;subst h;exact .nil
 |cons o l ih =>
  intro b h;have h':(ob (fW x o.1) λp=>ob (fW y o.1) λq=>ob (jM o.2 p q) λt=>aO t (sW x y l) (some false))=some b:=h;simp only[av,fT]at h';obtain⟨p,hp,q,hq,t,ht,h'⟩:=h';obtain⟨p',jz,vp⟩:=hx.get hp;obtain⟨q',hq',vq⟩:=hy.get hq;have:=mC vp vq ht;cases t with
  |true=>exact .yes (by simpa using jz) (by simpa using hq') this (ih h')
  |false =>
   simp only[qQJ]at h';subst h';exact .no (by simpa using jz) (by simpa using hq') this
def ca {op:BinOp}{t:TypeId}{x y:Operand}{u v:Value}(h1:¬(u=.nilIface/\v=.nilIface))(h2:∀xs ys,¬(u=.agg xs/\v=.agg ys)) :
 (eqGuard op t x y u v).run P w=.ok () w:=by
 unfold eqGuard;cases op<;>cases u<;>cases v<;>first|rfl|(exact absurd ⟨rfl,rfl⟩ h1)|(exact absurd ⟨rfl,rfl⟩ (h2 _ _))
def D9 {op:BinOp}{k:IntKind}{x y:Int}{r:ae}{t:TypeId}(Tt:acA op=false)(h:kg op k x y=some r) :
 ∃v',(binOp op t (.int k x) (.int k y)).run P w=.ok v' w/\V ρ r v':=by
 have bits:∀(f:Nat->Nat->Nat)(g:∀{n:Nat},BitVec n->BitVec n->BitVec n)(hg:∀n (u v:BitVec n),(g u v).toNat=f u.toNat v.toNat)(hm:∀p q n:Nat,f (p % 2 ^ n) (q % 2 ^ n)=f p q % 2 ^ n)(p q:Nat),
     k.wrap (↑(g (BitVec.ofInt k.bits (Int.ofNat p)) (BitVec.ofInt k.bits (Int.ofNat q))).toNat)=jt k (.ofNat (f p q)):=by
  intro f g hg hm p q;rw[ia,hg];have e:∀n m:Nat,(BitVec.ofInt n (Int.ofNat m)).toNat=m % 2 ^ n:=by intro n m;simp
  rw[e,e,hm]
  have:∀m:Nat,k.wrap ((m % 2 ^ k.bits:Nat):Int)=k.wrap (m:Int):=by
   intro m;unfold IntKind.wrap
   have:(((m % 2 ^ k.bits:Nat):Int) % (2 ^ k.bits:Int))=(m:Int) % (2 ^ k.bits:Int):=by
    rw[Int.natCast_emod];have:((2 ^ k.bits:Nat):Int)=(2 ^ k.bits:Int):=by simp
    rw[this,Int.emod_emod]
   rw[this]
  exact this _
 cases op
 case add=>simp only[kg,qQJ]at h;subst h;rw[Dk,ia];exact⟨_,by simp[binOp,Op.intArith],.int _ _⟩
 case sub=>simp only[kg,qQJ]at h;subst h;rw[MH,ia];exact⟨_,by simp[binOp,Op.intArith],.int _ _⟩
 case mul=>simp only[kg,qQJ]at h;subst h;rw[ia];exact⟨_,by simp[binOp,Op.intArith],.int _ _⟩
 case quo =>
  simp only[kg,bq,lK]at h;split at h
  .cases h
  .rename_i hz;simp only[qQJ]at h;subst h;rw[ia];exact⟨_,by simp at hz;simp[binOp,Op.intDiv,hz],.int _ _⟩
 case rem =>
  simp only[kg,bq,lK]at h;split at h
  .cases h
  .rename_i hz;simp only[qQJ]at h;subst h;exact⟨_,by simp at hz;simp[binOp,Op.intDiv,hz],.int _ _⟩
 case and =>
  cases x with
  |negSucc p=>cases h
  |ofNat p=>cases y with
   |negSucc q=>cases h
   |ofNat q =>
    have h':some (ae.int k (jt k (.ofNat (Nat.land p q))))=some r:=h;simp only[qQJ]at h';subst h';refine⟨_,?_,.int _ _⟩;rw[<-bits Nat.land (λu v=>u &&& v) (λn u v=>BitVec.toNat_and u v) (λp q n=>(Nat.and_mod_two_pow).symm) _ _];simp[binOp,Op.intBits]
 case or =>
  cases x with
  |negSucc p=>cases h
  |ofNat p=>cases y with
   |negSucc q=>cases h
   |ofNat q =>
    have h':some (ae.int k (jt k (.ofNat (Nat.lor p q))))=some r:=h;simp only[qQJ]at h';subst h';refine⟨_,?_,.int _ _⟩;rw[<-bits Nat.lor (λu v=>u ||| v) (λn u v=>BitVec.toNat_or u v) (λp q n=>(Nat.or_mod_two_pow).symm) _ _];simp[binOp,Op.intBits]
 case xor =>
  cases x with
  |negSucc p=>cases h
  |ofNat p=>cases y with
   |negSucc q=>cases h
   |ofNat q =>
    have h':some (ae.int k (jt k (.ofNat (Nat.xor p q))))=some r:=h;simp only[qQJ]at h';subst h';refine⟨_,?_,.int _ _⟩;rw[<-bits Nat.xor (λu v=>u ^^^ v) (λn u v=>BitVec.toNat_xor u v) (λp q n=>(Nat.xor_mod_two_pow).symm) _ _];simp[binOp,Op.intBits]
 case shl=>cases h
 case shr=>cases h
 case andNot=>cases h
 case eql=>simp only[kg,qQJ]at h;subst h;rw[lK];exact⟨_,by simp[binOp,Op.intCmp],.bool _⟩
 case neq=>simp only[kg,qQJ]at h;subst h;rw[lK];exact⟨_,by simp[binOp,Op.intCmp,bne],.bool _⟩
 case lss=>simp only[kg,qQJ]at h;subst h;rw[lN];exact⟨_,by simp[binOp,Op.intCmp],.bool _⟩
 case leq =>
  simp only[kg,qQJ]at h;subst h;rw[lN];have:(!decide (y<x))=decide (x<=y):=by rw[qZL];simp
  exact⟨.bool (decide (x<=y)),by simp[binOp,Op.intCmp],by rw[<-this];exact .bool _⟩
 case gtr=>simp only[kg,qQJ]at h;subst h;rw[lN];exact⟨.bool (decide (y<x)),by simp[binOp,Op.intCmp],.bool _⟩
 case geq =>
  simp only[kg,qQJ]at h;subst h;rw[lN];have:(!decide (x<y))=decide (y<=x):=by rw[qZL];simp
  exact⟨.bool (decide (y<=x)),by simp[binOp,Op.intCmp],by rw[<-this];exact .bool _⟩
def EU {op:BinOp}{x y:List Nat}{bx bY:ByteArray}(hx:bx.data.toList.map UInt8.toNat=x)(hy:bY.data.toList.map UInt8.toNat=y){r:ae}{t:TypeId}
 (h:ET op x y=some r):∃v',(binOp op t (.string bx) (.string bY)).run P w=.ok v' w/\V ρ r v':=by
 cases op<;>simp only[ET,qQJ,aG,qZB,bV]at h<;>first|(cases h;done)|skip
 case add =>
  obtain⟨hle,h⟩:=h;subst h;refine⟨.string (bx++bY),?_,.str ?_⟩
  .have e1:bx.size=x.length:=by rw[<-hx];simp
   have e2:bY.size=y.length:=by rw[<-hy];simp
   have iN:x.length+y.length<=1073741824:=hle
   have:¬(((bx.size+bY.size:Nat):Int) > IntKind.i64.max):=by
    have:IntKind.i64.max=9223372036854775807:=by decide
    rw[this];omega
   simp only[binOp,Op.stringOp];rw[if_neg this];rfl
  .rw[gQ,<-hx,<-hy];simp
 case eql=>subst h;rw[lh hx hy];exact⟨_,by simp[binOp,Op.stringOp],.bool _⟩
 case neq=>subst h;rw[lh hx hy];exact⟨_,by simp[binOp,Op.stringOp],.bool _⟩
 case lss=>subst h;rw[nV hx hy];exact⟨_,by simp[binOp,Op.stringOp],.bool _⟩
 case leq=>subst h;rw[nV hx hy,lh hx hy];exact⟨_,by simp[binOp,Op.stringOp],.bool _⟩
 case gtr=>subst h;rw[nV hx hy,lh hx hy];exact⟨_,by simp[binOp,Op.stringOp],.bool _⟩
 case geq=>subst h;rw[nV hx hy];exact⟨_,by simp[binOp,Op.stringOp],.bool _⟩
def K9 {op:BinOp}{k k':IntKind}{x y:Int}{q:Option ae}{r:ae}{t:TypeId}(h:YC op k x y=some q)(hq:q=some r) :
 ∃v',(binOp op t (.int k x) (.int k' y)).run P w=.ok v' w/\V ρ r v':=by
 subst hq;cases op<;>simp only[YC,qQJ]at h<;>first|(cases h;done)|skip
 case shl =>
  split at h
  .cases h
  .rename_i hy;simp only[qQJ]at h;subst h;rw[ia];exact⟨_,by simp[binOp,Op.shift,hy],.int _ _⟩
 case shr =>
  split at h
  .cases h
  .rename_i hy;simp only[qQJ]at h;subst h;exact⟨_,by simp[binOp,Op.shift,hy],.int _ _⟩
def jD {t:TypeId}{x y:Value}{b:Bool}(h:∀d,(Op.equalIn (d+1) t x y).run P w=.ok b w):(Op.equal t x y).run P w=.ok b w:=h 9999
def xY (hE:bl E P){t:TypeId}{x y:Operand}{u v:ae}{u' v':Value}(hu:V ρ u u')(hv:V ρ v v'){b:Bool}(hs:lS (cEq E t x y) u v=some b) :
 (Op.equal t u' v').run P w=.ok b w/\(∀op,(eqGuard op t x y u' v').run P w=.ok () w) /\
 (∀op,op=.eql\/op=.neq->binOp op t u' v'=(if op=.eql then do pure (.bool (<-Op.equal t u' v')) else do pure (.bool (!(<-Op.equal t u' v'))))):=by
 have bo:∀(p q:Value),(∀k n,p≠.int k n)->(∀k n,p≠.float k n)->(∀k m n,p≠.complex k m n)->(∀s,p≠.string s)->∀op,op=.eql\/op=.neq ->
     binOp op t p q=(if op=.eql then do pure (.bool (<-Op.equal t p q)) else do pure (.bool (!(<-Op.equal t p q)))):=by
  intro p q h1 h2 h3 h4 op nP;rcases nP with rfl|rfl
  .cases p<;>first|(exact absurd rfl (h1 _ _))|(exact absurd rfl (h2 _ _))|(exact absurd rfl (h3 _ _ _))|(exact absurd rfl (h4 _))|(cases q<;>rfl)
  .cases p<;>first|(exact absurd rfl (h1 _ _))|(exact absurd rfl (h2 _ _))|(exact absurd rfl (h3 _ _ _))|(exact absurd rfl (h4 _))|(cases q<;>rfl)
 unfold cEq at hs;cases hd:E.mr t with
 |none=>rw[hd]at hs;simp[lS]at hs
 |some d =>
  have jW:=λw=>hE.bz hd w;rw[hd]at hs;cases d with
  |bool =>
   simp only at hs;cases hu<;>cases hv<;>simp only[lS,qQJ]at hs<;>first|(cases hs;done)|skip
   subst hs;refine⟨?_,λop=>ca (by simp) (by simp),bo _ _ (by simp) (by simp) (by simp) (by simp)⟩;exact jD (λd=>by simp[Op.equalIn,jW,vL])
  |pointer e =>
   simp only at hs;cases iq:E.size e with
   |none=>rw[iq]at hs;simp[lS]at hs
   |some n =>
    rw[iq]at hs;cases n with
    |zero=>simp[lS]at hs
    |succ n =>
     simp only at hs;cases hu<;>cases hv<;>simp only[lS,qQJ]at hs<;>first|(cases hs;done)|skip
     .refine⟨?_,λop=>ca (by simp) (by simp),bo _ _ (by simp) (by simp) (by simp) (by simp)⟩;exact jD (λd=>by subst hs;simp[Op.equalIn,jW])
     .refine⟨?_,λop=>ca (by simp) (by simp),bo _ _ (by simp) (by simp) (by simp) (by simp)⟩;exact jD (λd=>by subst hs;simp[Op.equalIn,jW])
     .refine⟨?_,λop=>ca (by simp) (by simp),bo _ _ (by simp) (by simp) (by simp) (by simp)⟩;exact jD (λd=>by subst hs;simp[Op.equalIn,jW])
     .rename_i b o r hr b' o' r' oH;rw[cond_eq_ite]at hs;split at hs
      .rename_i hb;have vC:b=b':=by simpa using hb
       subst vC;rw[hr]at oH;cases oH;simp only[qQJ]at hs;subst hs;refine⟨?_,λop=>ca (by simp) (by simp),bo _ _ (by simp) (by simp) (by simp) (by simp)⟩;refine jD (λd=>?_);simp only[Op.equalIn,Sem.run_bind,jW,Result.andThen_ok,hE.gy iq];simp only[ne_eq,Nat.add_eq_zero_iff,Nat.succ_ne_self,and_false,not_false_eq_true,if_true,sameAddr];simp;rw[qZL,beq_iff_eq,qZX];constructor
       .intro h;injection h with h1 h2;omega
       .rintro rfl;rfl
      .cases hs
  |slice e =>
   simp only at hs;cases hu<;>cases hv<;>simp only[lS,qQJ]at hs<;>first|(cases hs;done)|skip
   all_goals
    refine⟨?_,λop=>ca (by simp) (by simp),bo _ _ (by simp) (by simp) (by simp) (by simp)⟩;exact jD (λd=>by subst hs;simp[Op.equalIn,jW])
  |map k e =>
   simp only at hs;cases hu<;>cases hv<;>simp only[lS,qQJ]at hs<;>first|(cases hs;done)|skip
   all_goals
    refine⟨?_,λop=>ca (by simp) (by simp),bo _ _ (by simp) (by simp) (by simp) (by simp)⟩;exact jD (λd=>by subst hs;simp[Op.equalIn,jW])
  |func p r va =>
   simp only at hs;cases hu<;>cases hv<;>simp only[lS,qQJ]at hs<;>first|(cases hs;done)|skip
   all_goals
    refine⟨?_,λop=>ca (by simp) (by simp),bo _ _ (by simp) (by simp) (by simp) (by simp)⟩;exact jD (λd=>by subst hs;simp[Op.equalIn,jW])
  |interface ms =>
   simp only at hs;cases kE:(isC x || isC y)<;>rw[kE]at hs
   .cases hu<;>cases hv<;>simp only[lS,qQJ]at hs<;>first|(cases hs;done)|skip
    all_goals
     refine⟨?_,λop=>ca (by simp) (by simp),bo _ _ (by simp) (by simp) (by simp) (by simp)⟩;exact jD (λd=>by subst hs;simp[Op.equalIn,jW])
   .cases hu<;>cases hv<;>simp only[lS,qQJ]at hs<;>first|(cases hs;done)|skip
    all_goals
     refine⟨jD (λd=>by subst hs;simp[Op.equalIn,jW]),λop=>?_,bo _ _ (by simp) (by simp) (by simp) (by simp)⟩
     first
      |(refine ca ?_ ?_<;>(simp;done))
      |(unfold eqGuard
        cases op<;>first|rfl|(
         cases x<;>cases y<;>first|rfl|(simp[isC]at kE;done)))
  |struct fs =>
   simp only at hs;cases hq:E.eqs.get t with
   |none=>rw[hq]at hs;simp[lS]at hs
   |some eU =>
    rw[hq]at hs;have Z5:=hE.eqs t eU hq;cases hu<;>cases hv<;>simp only[lS]at hs<;>first|(cases hs;done)|skip
    rename_i l1 l1' f1 v1 l2 l2' f2 v2;have:=tA v1 v2 hs;refine⟨Z5.eq w _ _ b this,λop=>?_,bo _ _ (by simp) (by simp) (by simp) (by simp)⟩;exact run_eqGuard_agg w op t x y _ _ Z5.guard
  |_=>simp[lS]at hs
def Yb (hE:bl E P)(op:BinOp)(t:TypeId)(x y:Operand)(yt:TypeId):tl E P K W0 (.binOp op t x y yt):=by
 intro ρ fr h w a o co v h' ho hc hf H hs;simp only[iJ,qQV,qQQ]at hc;obtain⟨cx,fX,cy,hcy,hc⟩:=hc;cases hc;have ar:ob (kZ op (cEq E t x y) (aJ cx fr) (aJ cy fr)) (λv=>some (v,h))=some (v,h'):=hs;rw[av]at ar;obtain⟨r,hr,he⟩:=ar;simp only[qQJ,qQA]at he;obtain⟨rfl,rfl⟩:=he;have vx:=aB hf fX;have vy:=aB hf hcy;have hx:execOp a.eval o=(do pure (.value (<-(do eqGuard op t x y (a.eval x) (a.eval y);binOp op t (a.eval x) (a.eval y))))):=by unfold execOp;rw[ho]
 rw[hx];generalize aJ cx fr=u at vx hr;generalize aJ cy fr=z at vy hr;generalize a.eval x=u' at vx;generalize a.eval y=z' at vy
 suffices vG:∃v',(eqGuard op t x y u' z').run P w=.ok () w/\(binOp op t u' z').run P w=.ok v' w/\V ρ r v' by
  obtain⟨v',h1,h2,h3⟩:=vG;exact .fc (v':=v') (by simp only[Sem.run_bind,h1,Result.andThen_ok,h2]) h3 H
 have other:ug op (cEq E t x y) u z=some r->∃v',(eqGuard op t x y u' z').run P w=.ok () w/\(binOp op t u' z').run P w=.ok v' w/\V ρ r v':=by
  intro hq;cases op<;>simp only[ug,qQC]at hq<;>first|(cases hq;done)|skip
  .obtain⟨b,hb,rfl⟩:=hq;obtain⟨h1,h2,h3⟩:=xY (w:=w) hE vx vy hb;refine⟨.bool b,h2 _,?_,.bool _⟩;rw[h3 _ (.inl rfl)];simp[h1]
  .obtain⟨b,hb,rfl⟩:=hq;obtain⟨h1,h2,h3⟩:=xY (w:=w) hE vx vy hb;refine⟨.bool (!b),h2 _,?_,.bool _⟩;rw[h3 _ (.inr rfl)];simp[h1]
 cases vx with
 |int k n =>
  have oH:(jr z λk' b=>aO (acA op) (ob (YC op k n b) λr=>r) (aO (NJ k k') (kg op k n b) none))=some r:=hr;rw[fA]at oH;obtain⟨k',m,rfl,oH⟩:=oH;rw[vy.eZ];refine(λ(hh:∃v',(binOp op t (.int k n) (.int k' m)).run P w=.ok v' w/\V ρ r v')=>let⟨v',h1,h2⟩:=hh;⟨v',ca (by simp) (by simp),h1,h2⟩) ?_;rw[bq]at oH;split at oH
  .rw[av]at oH;obtain⟨q,h1,h2⟩:=oH;exact K9 h1 h2
  .rename_i Tt;rw[aG,uf,decide_eq_true_iff]at oH;obtain⟨rfl,oH⟩:=oH;exact D9 (by simpa using Tt) oH
 |str e =>
  rename_i s bs;have oH:(kH z λs'=>ET op s s')=some r:=hr;rw[fB]at oH;obtain⟨s',rfl,oH⟩:=oH;obtain⟨bs',rfl,e'⟩:=vy.kq;obtain⟨v',h1,h2⟩:=EU (P:=P) (ρ:=ρ) (w:=w) (t:=t) e e' oH;exact⟨v',ca (by simp) (by simp),h1,h2⟩
 |_=>exact other hr
end
section
variable{E:Env}{P:Program}[Lay P]{K:cu}{W0:World}{ρ:Ren}{fr:Fr}{h:aa}{w:World}{a:Act}{l:List ae}{e:TypeId}
def Yf (t:TypeId)(x:Operand):tl E P K W0 (.unOp .not t x):=by
 intro ρ fr h w a o co v h' ho hc hf H hs;simp only[iJ,qQV,qQQ]at hc;obtain⟨c,hx,hc⟩:=hc;cases hc;simp only[aC,I.not,eh,qQJ,qQA]at hs;obtain⟨b,hb,rfl,rfl⟩:=hs;have vx:=aB hf hx;rw[hb]at vx;have e:=vx.iD;have hx:execOp a.eval o=(do pure (.value (<-Op.unary .not (a.eval x)))):=by unfold execOp;rw[ho]
 rw[hx,e];exact .fc (v':=.bool (!b)) (by simp[Op.unary]) (.bool _) H
def Ye (t:TypeId)(x:Operand):tl E P K W0 (.unOp .neg t x):=by
 intro ρ fr h w a o co v h' ho hc hf H hs;simp only[iJ,qQV,qQQ]at hc;obtain⟨c,hx,hc⟩:=hc;cases hc;simp only[aC,I.neg,fA,qQJ,qQA]at hs;obtain⟨k,n,hb,rfl,rfl⟩:=hs;have vx:=aB hf hx;rw[hb]at vx;have e:=vx.eZ;have hx:execOp a.eval o=(do pure (.value (<-Op.unary .neg (a.eval x)))):=by unfold execOp;rw[ho]
 rw[hx,e,ia,Mp];exact .fc (v':=.int k (k.wrap (0-n))) (by simp[Op.unary,Op.intArith]) (.int _ _) H
def BM {l:List ae}:∀{s:List Nat},eD l=some s->∀x,x∈l->x.flat=true:=by
 induction l with
 |nil=>intro s _ x hx;cases hx
 |cons v l ih =>
  intro s hs x hx;have ar:(jr v λk n=>aO (NJ k .u8) (@Int.rec (λ_=>Option (List Nat)) (λm=>aO (Nat.blt m 256) (ob (eD l) λl=>some (m :: l)) none) (λ_=>none) n) none)=some s:=hs;rw[fA]at ar;obtain⟨k,n,rfl,ar⟩:=ar;rw[aG]at ar;obtain⟨_,ar⟩:=ar;rcases qQF.1 hx with rfl|kx
  .rfl
  .cases n with
   |negSucc m=>cases ar
   |ofNat m =>
    have ar:aO (Nat.blt m 256) (ob (eD l) λl=>some (m :: l)) none=some s:=ar;rw[aG,av]at ar;obtain⟨_,t,ht,_⟩:=ar;exact ih ht x kx
def xW {l:List ae}:∀{s:List Nat}{l':List Value},VL ρ l l'->eD l=some s->∃bs:List UInt8,l'=bs.map (λb=>Value.int .u8 b.toNat)/\s=bs.map UInt8.toNat:=by
 induction l with
 |nil=>intro s l' hv hs;cases hv;simp only[eD,qQJ]at hs;subst hs;exact⟨[],rfl,rfl⟩
 |cons v l ih =>
  intro s l' hv hs;cases hv with
  |cons hva D3 =>
   have ar:(jr v λk n=>aO (NJ k .u8) (@Int.rec (λ_=>Option (List Nat)) (λm=>aO (Nat.blt m 256) (ob (eD l) λl=>some (m :: l)) none) (λ_=>none) n) none)=some s:=hs;rw[fA]at ar;obtain⟨k,n,rfl,ar⟩:=ar;rw[aG,uf,decide_eq_true_iff]at ar;obtain⟨rfl,ar⟩:=ar;cases n with
   |negSucc m=>cases ar
   |ofNat m =>
    simp only[aG,av,qQJ,qJE]at ar;obtain⟨hm,s',h1,rfl⟩:=ar;rw[hva.eZ];obtain⟨bs,h2,h3⟩:=ih D3 h1;exact⟨UInt8.ofNat m :: bs,by rw[h2];simp[Nat.mod_eq_of_lt hm],by rw[h3];simp[Nat.mod_eq_of_lt hm]⟩
def JK (bs:List UInt8):∀r:ByteArray,((bs.map λb=>((b.toNat:Nat):Int)).foldl (λr n=>r.push (UInt8.ofNat n.toNat)) r).data.toList=r.data.toList++bs:=by
 induction bs with
 |nil=>intro r;simp
 |cons b bs ih =>
  intro r;simp only[qZW,List.foldl_cons];rw[ih];simp
def yg (hp:Array Obj)(o:Obj)(f:Obj->Obj):(hp.push o).modify hp.size f=hp.push (f o):=by
 apply Array.ext_getElem?;intro i;rw[qVF,qKW,qKW];by_cases h:hp.size=i
 .subst h;simp
 .rw[if_neg h,if_neg (Ne.symm h),if_neg (Ne.symm h)]
def WR.newRow (H:WR P K W0 ρ h w){h':aa}(jx:h'.get h.next=some (.cells l e))(dV:∀m,m≠h.next->h'.get m=h.get m)(ra:h'.next=h.next+1)
 {C:Array Value} {z cap:Nat} {fz:Nat×Nat} (DR:VN C fz) (hl:∀(i:Nat) v,l[i]?=some v->v.flat=true/\∃v',C[i]?=some v'/\V ρ v v') (hz:P.cellsOf e=z) (hlen:l.length<=C.size) (lL:cap<=C.size) :
 WR P K W0 (ρ.rB h.next ⟨w.heap.size,0,some (z,cap),mz⟩) h' {w with heap:=w.heap.push (.cells C e fz)}:=by
 have ru:=(H.fresh h.next (qQY _)).1;refine H.push (r:=⟨w.heap.size,0,some (z,cap),mz⟩) _ ru jx dV (by omega) (by omega) H.nx rfl ?_;refine⟨⟨C,fz,rfl,by simpa using hlen,λi v hi=>?_,λz' x VF=>?_⟩,λC' fz' hC x hx=>by cases hC;exact DR x hx⟩
 .obtain⟨a,v',b,c⟩:=hl i v hi;exact⟨a,v',by simpa using b,c.mono (Ren.iZ _ ru)⟩
 .cases VF;exact⟨by simpa using lL,hz⟩
def EH (hE:bl E P){e:TypeId}{c:au}{x':Value}(hx:V ρ (aJ c fr) x')(H:WR P K W0 ρ h w)(h1:E.size e=some 1)
 {v:ae} {h':aa} (hs:I.dQ e c fr h=some (v,h')):∃v' w' bn,(∃bs,x'=.string bs/\(Conv.stringToBytes e bs).run P w=.ok v' w')/\ρ.le bn/\V bn v v'/\WR P K W0 bn h' w':=by
 simp only[I.dQ,fB,qQJ,qQA,bV]at hs;obtain⟨n,hb,rfl,rfl⟩:=hs;rw[hb]at hx;obtain⟨bs,rfl,wD⟩:=hx.kq;have ru:=(H.fresh h.next (qQY _)).1;have hlen:n.length=bs.size:=by rw[<-wD];simp
 let t:=w.tape w.drawn (.appendCap bs.size 0 e)
 let cap:=bs.size+t % (2 ^ 63-bs.size)
 let C:Array Value:=bs.data.map (λb=>Value.int .u8 b.toNat)++Array.replicate (cap-bs.size) (.int .u8 0)
 have hC:C.size=cap:=by simp[C,cap]
 have lL:bs.size<=cap:=by simp[cap]
 let w1:World:={w with drawn:=w.drawn+1}
 refine⟨.slice (some ⟨w.heap.size,0,none⟩) bs.size cap,{w1 with heap:=w1.heap.push (.cells C e (C.size,C.size+1))},ρ.rB h.next ⟨w.heap.size,0,some (1,cap),mz⟩,⟨bs,rfl,?_⟩,Ren.iZ _ ru,?_,?_⟩
 .simp only[Conv.stringToBytes,Sem.run_bind,run_choose,Question.forced,qZJ,if_false,Result.andThen_ok,newRow,run_newObj,Sem.run_pure,markStringish,run_shape];have Tt:({w with drawn:=w.drawn+1,heap:=w.heap.push (.cells C e (0,0))}:World).shape? w.heap.size=some (e,C.size):=by simp[World.shape?]
  have e1:(Question.appendCap bs.size 0 e).cut (w.tape w.drawn (.appendCap bs.size 0 e))=cap:=rfl;rw[e1];have e2:bs.data.map (λb=>Value.int .u8 b.toNat)++Array.replicate (cap-bs.size) (.int .u8 0)=C:=rfl;rw[e2];rw[show((({w with drawn:=w.drawn+1,heap:=w.heap.push (Obj.cells C e (0,0))}:World).shape? w.heap.size))=some (e,C.size) from Tt];simp only[run_freeze,Result.andThen_ok,World.freeze];rw[if_neg (by decide)];congr 1;simp only[w1];congr 1;rw[yg];simp
 .have:=V.slice (ρ:=ρ.rB h.next ⟨w.heap.size,0,some (1,cap),mz⟩) (o:=0) (n:=bs.size) (c:=bs.size) (c':=cap) (ex:=false) (Ren.fq _ _ _) (qQY _) (λh=>by cases h)
   (λ_=>⟨lL,1,cap,rfl,by omega⟩)
  rw[hlen];simpa using this
 .refine(H.drawn (w.drawn+1)).newRow (h':=h.push (.cells (ofBytes n) e)) (aa.ai _ _) (λm hm=>aa.aA _ _ (Ne.symm hm)) rfl (λx hx=>by simp;omega) (λi v hi=>?_) (hE.cellsOf h1) ?_ (by omega)
  .unfold ofBytes at hi;rw[gq,qQX,qQC]at hi;obtain⟨m,hm,rfl⟩:=hi;rw[<-wD,qQX,qQC]at hm;obtain⟨b,vC,rfl⟩:=hm;refine⟨rfl,.int .u8 b.toNat,?_,.int _ _⟩
   have dL:i<bs.data.size:=by
    have:=(qQZ.1 vC).1;simpa using this
   simp only[C];rw[qKM (by simpa using dL)];simp at vC ⊢;exact⟨b,vC,rfl⟩
  .unfold ofBytes;rw[gq];simp;omega
def HC (hE:bl E P)(s d:TypeId)(x:Operand):tl E P K W0 (.convert s d x):=by
 intro ρ fr h w a o co v h' ho hc hf H hs;simp only[iJ,qQV,qQQ]at hc;obtain⟨ds,hds,dd,yG,hc⟩:=hc;have hx:execOp a.eval o=(do pure (.value (<-convert s d (a.eval x)))):=by unfold execOp;rw[ho]
 rw[hx];have hus:=λw=>hE.bz hds w;have BD:=λw=>hE.bz yG w;split at hc
 .rename_i k0 k;simp only[qQQ]at hc;obtain⟨c,fX,hc⟩:=hc;cases hc;simp only[aC,I.px,fA,qQJ,qQA]at hs;obtain⟨k',n,hb,rfl,rfl⟩:=hs;have vx:=aB hf fX;rw[hb]at vx;rw[vx.eZ,ia];exact .fc (v':=.int k (k.wrap n)) (by simp[convert,hus,BD,Conv.intToInt]) (.int _ _) H
 .simp only[qQQ]at hc;obtain⟨c,fX,hc⟩:=hc;cases hc;simp only[aC,I.uc,fB,qQJ,qQA]at hs;obtain⟨n,hb,rfl,rfl⟩:=hs;have vx:=aB hf fX;rw[hb]at vx;obtain⟨bs,e,wD⟩:=vx.kq;rw[e];exact .fc (v':=.string bs) (by simp[convert,hus,BD]) (.str wD) H
 .rename_i e;simp only[qQQ]at hc;obtain⟨de,hde,hc⟩:=hc;split at hc
  case h_2=>cases hc
  split at hc
  case isFalse=>cases hc
  rename_i h1;simp only[qQQ]at hc;obtain⟨c,fX,hc⟩:=hc;cases hc;obtain⟨v',w',bn,⟨bs,e1,e2⟩,h2,h3,h4⟩:=EH (P:=P) (K:=K) (W0:=W0) hE (aB hf fX) H h1 hs;rw[e1];exact .val (by simp only[convert,Sem.run_bind,hus,BD,Result.andThen_ok,λw=>hE.bz hde w,e2]) h2 h3 h4
 .rename_i e;simp only[qQQ]at hc;obtain⟨de,hde,hc⟩:=hc;split at hc
  case h_2=>cases hc
  simp only[qQQ]at hc;obtain⟨c,fX,hc⟩:=hc;cases hc;have hue:=λw=>hE.bz hde w;have ar:I.dw c fr h=some (v,h'):=hs;simp only[I.dw,dI]at ar;have vx:=aB hf fX;rcases ar with⟨hb,ar⟩|⟨b,off,n,cap,ex,hb,ar⟩
  .simp only[qQJ,qQA]at ar;obtain⟨rfl,rfl⟩:=ar;rw[hb]at vx;rw[vx.fF];exact .fc (v':=.string .empty) (by simp[convert,hus,BD,hue,Conv.bytesToString]) (.str rfl) H
  .obtain⟨l,e',own,jx,ar⟩:=fw ar;simp only[aG,av]at ar;obtain⟨hle,sl,y7,ar⟩:=ar;simp only[qQJ,qQA]at ar;obtain⟨rfl,rfl⟩:=ar;rw[hb]at vx;simp only[bV,qZB]at hle;have iN:off+n<=l.length:=hle;rw[cW,df]at y7;generalize tM:a.eval x=v' at vx;cases vx with
   |slice hr h3 h4 h5 =>
    rename_i c' r;obtain⟨C,fz,hC,DR,hd,kM,_,_⟩:=iR H jx hr;obtain⟨h1,h2⟩:=tj kM hd iN (.inr (BM y7));obtain⟨bs,wD,Qk⟩:=xW h1 y7;refine .fc (v':=.string ((bs.map λb=>((b.toNat:Nat):Int)).foldl (λr n=>r.push (UInt8.ofNat n.toNat)) ByteArray.empty)) ?_ (.str ?_) H
    .simp only[convert,Sem.run_bind,hus,BD,hue,Result.andThen_ok];refine run_bytesToString w _ n c' (bs.map λb=>((b.toNat:Nat):Int)) ?_;rw[run_loadCells hC (by omega)];congr 1;apply qKG;rw[wD];simp
    .rw[JK,Qk];simp
   |sH =>
    simp at y7;simp only[eD,qQJ]at y7;subst y7;refine .fc (v':=.string .empty) ?_ (.str rfl) H;simp only[convert,Sem.run_bind,hus,BD,hue,Result.andThen_ok];have:=run_bytesToString (P:=P) w (by assumption) 0 0 [] (by simp[loadCells,loadCellsFrom]);simpa using this
 .cases hc
end
section
variable{E:Env}{P:Program}[Lay P]{K:cu}{W0:World}{ρ:Ren}{fr:Fr}{h:aa}{w:World}{a:Act}
def acW (x:Operand):tl E P K W0 (.move x):=by
 intro ρ fr h w a o co v h' ho hc hf H hs;simp only[iJ,qQC]at hc;obtain⟨c,hx,rfl⟩:=hc;have:=UP (P:=P) (K:=K) (W0:=W0) hf H hx hs;unfold execOp;rw[ho];exact this
def KH (x:Operand):tl E P K W0 (.assign x):=by
 intro ρ fr h w a o co v h' ho hc hf H hs;simp only[iJ,qQC]at hc;obtain⟨c,hx,rfl⟩:=hc;have:=UP (P:=P) (K:=K) (W0:=W0) hf H hx hs;unfold execOp;rw[ho];exact this
def Uo (x y z:Operand):tl E P K W0 (.pick x y z):=by
 intro ρ fr h w a o co v h' ho hc hf H hs;simp only[iJ,qQV,qQQ]at hc;obtain⟨cx,hx,cy,hy,cz,hz,hc⟩:=hc;cases hc;unfold execOp;rw[ho];exact UQ hf H hx hy hz hs
def vX (hE:bl E P)(t:TypeId)(x:Operand):tl E P K W0 (.makeInterface t x):=by
 intro ρ fr h w a o co v h' ho hc hf H hs;simp only[iJ,qQV,qQQ]at hc;obtain⟨d,hd,hc⟩:=hc;have hx:execOp a.eval o=(do pure (.value (<-Instr.makeInterface t (a.eval x)))):=by unfold execOp;rw[ho]
 split at hc
 .cases hc
 .rename_i Ol;simp only[qQQ]at hc;obtain⟨c,fX,hc⟩:=hc;cases hc;simp only[aC,I.eP,qQJ,qQA]at hs;obtain⟨rfl,rfl⟩:=hs;rw[hx];refine .fc (v':=.iface t (a.eval x)) ?_ (.iface (aB hf fX)) H;unfold Instr.makeInterface;simp only[Sem.run_bind,hE.bz hd,Result.andThen_ok];cases d<;>first|(exact absurd rfl (Ol _))|rfl
def EE (f:FuncId)(x y:Array Operand):tl E P K W0 (.makeFunc (.func f) x y):=by
 intro ρ fr h w a o co v h' ho hc hf H hs;simp only[iJ,qQV]at hc;split at hc
 case isFalse=>cases hc
 rename_i dL;simp only[qQQ]at hc;obtain⟨cx,hx,cy,hy,hc⟩:=hc;cases hc;simp only[aC,I.iu,qQJ,qQA]at hs;obtain⟨rfl,rfl⟩:=hs;have qz:execOp a.eval o=(do pure (.value (<-Instr.makeFunc (.func f) (x.map a.eval) (y.map a.eval)))):=by unfold execOp;rw[ho]
 rw[qz];exact .fc (v':=.func (.func f) (x.map a.eval) (y.map a.eval)) rfl (.func dL (mj hf hx) (mj hf hy)) H
def HF (t:TypeId):tl E P K W0 (.makeMap t none):=by
 intro ρ fr h w a o co v h' ho hc hf H hs;simp only[iJ,qQJ]at hc;subst hc;simp only[aC,I.mkMap,qQJ,qQA]at hs;obtain⟨rfl,rfl⟩:=hs;have ru:=(H.fresh h.next (qQY _)).1;have qz:execOp a.eval o=(do pure (.value (<-Instr.makeMap t none))):=by unfold execOp;rw[ho];rfl
 rw[qz];refine .val (v':=.map (some w.heap.size)) (w':={w with heap:=w.heap.push (.map #[] 0)}) rfl (Ren.iZ ⟨w.heap.size,0,none,mz⟩ ru) (.map (Ren.fq _ _ _)) ?_;refine H.push (r:=⟨w.heap.size,0,none,mz⟩) _ ru (aa.ai _ _) (λm hm=>aa.aA _ _ (Ne.symm hm)) (by simp[aa.bI]) (by simp[aa.bI]) H.nx rfl ?_;exact⟨rfl,#[],rfl,.nil⟩
def kV {x:ae}{n:Nat}{k:IntKind}{x':Value}(hx:V ρ x x')(h:x=.int k (.ofNat n)):x'=.int k (n:Int):=by
 subst h;exact hx.eZ
def qT {n:Nat}(h:n<=1073741824):IntKind.i64.wrap (n:Int)=n:=by
 unfold IntKind.wrap;simp only[IntKind.bits,IntKind.signed,Bool.true_and,decide_eq_true_eq,ge_iff_le];rw[if_neg (by omega)];omega
def Ce (hE:bl E P)(t:TypeId)(x y:Operand):tl E P K W0 (.makeSlice t x y):=by
 intro ρ fr h w a o co v h' ho hc hf H hs;simp only[iJ,qQV,qQQ]at hc;obtain⟨d,hd,hc⟩:=hc;split at hc
 case h_2=>cases hc
 rename_i elem;simp only[qQQ]at hc;obtain⟨z,hz,i,hi,cx,hx,cy,hy,hc⟩:=hc;cases hc;obtain⟨zv,hr,iq,ny,hv,ic,hlen⟩:=hE.lG hz;simp only[aC,I.mkSlice,eV,aG,qQJ,qQA]at hs;obtain⟨k1,l,h1,k2,c,h2,hle,rfl,rfl⟩:=hs;simp only[qZQ,qZB]at hle;obtain⟨bh,aS,cQ⟩:=hle;have vH:c*i.bytes<=1073741824:=aS;have e1:=kV (aB hf hx) h1;have e2:=kV (aB hf hy) h2;have qz:execOp a.eval o=(do pure (.value (<-Instr.makeSlice t (a.eval x) (a.eval y)))):=by unfold execOp;rw[ho]
 rw[qz,e1,e2,zd];have ru:=(H.fresh h.next (qQY _)).1;have wl:IntKind.i64.wrap (l:Int)=l:=qT (by omega);have wc:IntKind.i64.wrap (c:Int)=c:=qT (by omega);have sa:=hE.info _ _ hi
 refine .val (v':=.slice (some ⟨w.heap.size,0,none⟩) l c) (w':={w with heap:=w.heap.push (.cells ((Array.range (c*z.2)).map (zv.cells[· % zv.cells.size]!)) elem)}) ?_ (Ren.iZ ⟨w.heap.size,0,none,mz⟩ ru) ?_
  (H.AD (e:=elem) (sO (hv ρ) c z.2 hlen) (qU ic c))
 .unfold Instr.makeSlice;simp only[Sem.run_bind,hE.bz hd,Result.andThen_ok,asInt,asIntOf,Sem.run_pure,typeInfo,run_program,sa,wl,wc]
  have Md:∀n:Nat,n<=c->¬((decide ((n:Int)<0) || decide ((i.bytes:Int)*(n:Int) > 2 ^ 48))=true):=by
   intro n hn;have h3:i.bytes*n<=c*i.bytes:=by rw[Nat.mul_comm c];exact Nat.mul_le_mul_left _ hn
   have h4:((i.bytes*n:Nat):Int)<=1073741824:=by omega
   rw[Int.natCast_mul]at h4;simp only[qKC,decide_eq_true_eq];omega
  have hc0:((decide ((c:Int)<0) || decide ((i.bytes:Int)*(c:Int) > 2 ^ 48)))=false:=by simpa using Md c (qQY _)
  rw[if_neg (by simp only[hc0];simp;omega)];simp only[qWJ,run_askRoom,Sem.run_bind,Result.andThen_ok,iq];by_cases h0:c*z.2=0
  .rw[if_pos h0];simp only[Sem.run_pure,Result.andThen_ok,newRow,Sem.run_bind,run_newObj];congr 2;have e0:Array.range 0=#[]:=rfl;rw[h0,e0];simp only[Array.map_empty]
  .rw[if_neg h0];simp only[Sem.run_pure,Sem.run_bind,hr,Result.andThen_ok,newRow,run_newObj]
 .have:=V.slice (ρ:=ρ.rB h.next ⟨w.heap.size,0,none,mz⟩) (o:=0) (n:=l) (c:=c) (c':=c) (ex:=true) (Ren.fq _ _ _) bh (λ_=>rfl) (λh=>by cases h);simpa using this
def Cc (hE:bl E P)(s:TypeId)(x:Operand)(f:Nat):tl E P K W0 (.fieldAddr s x f):=by
 intro ρ fr h w a o co v h' ho hc hf H hs;simp only[iJ,qQV,qQQ]at hc;obtain⟨d,hd,hc⟩:=hc;split at hc
 case h_2=>cases hc
 rename_i fields;simp only[qQQ]at hc;obtain⟨fd,hfd,n,hn,hc⟩:=hc;split at hc
 .cases hc
 rename_i qZ;simp only[qQQ]at hc;obtain⟨c,fX,hc⟩:=hc;cases hc;simp only[aC,I.dh,cZ,qQJ,qQA]at hs;obtain⟨b,off,hp,rfl,rfl⟩:=hs;have vx:=aB hf fX;rw[hp]at vx;obtain⟨r,hr,e⟩:=vx.gv;have qz:execOp a.eval o=(do pure (.value (<-Instr.fieldAt s (a.eval x) f))):=by unfold execOp;rw[ho]
 rw[qz,e];refine .fc (v':=.pointer (some ⟨r.b,off+r.d+fd.offset,none⟩)) ?_ ?_ H
 .unfold Instr.fieldAt fieldPlace;simp only[Sem.run_bind,hE.bz hd,Result.andThen_ok,hfd,Instr.sureAddr,Sem.run_pure,hE.gy hn,if_neg qZ,add_eq]
 .have:=V.ptr (ρ:=ρ) (o:=off+fd.offset) hr;rw[show off+r.d+fd.offset=off+fd.offset+r.d by omega];exact this
def qN (hE:bl E P){t:TypeId}{l:List ae}{l':Array Value}(hl:VL ρ l l'.toList)(ic:∀x,x∈l->x.flat=true){off:Nat} :
 (∀n,iV E t=some true->E.size t=some n->∃v',(part t l' off).run P w=.ok v' w/\V ρ (.agg ((l.drop off).take n)) v') /\
 (∀v,iV E t=some false->l[off]?=some v->∃v',(part t l' off).run P w=.ok v' w/\V ρ v v'):=by
 constructor
 .intro n SR hn;refine⟨.agg (l'.extract off (off+n)),?_,.agg (λx hx=>ic x (List.mem_of_mem_drop (qKH hx))) ?_⟩
  .unfold part;simp only[Sem.run_bind,hE.tf SR,Result.andThen_ok,if_true,hE.gy hn,Sem.run_pure]
  .have:=(hl.drop off).take n;simpa[qVK] using this
 .intro v SR hv;obtain⟨v',h1,h2⟩:=hl.get hv;refine⟨v',?_,h2⟩;unfold part;simp only[Sem.run_bind,hE.tf SR,Result.andThen_ok,qZJ,if_false];rw[show l'[off]?=some v' by simpa using h1];rfl
def O8 (hE:bl E P)(s:TypeId)(x:Operand)(f:Nat):tl E P K W0 (.field s x f):=by
 intro ρ fr h w a o co v h' ho hc hf H hs;simp only[iJ,qQV,qQQ]at hc;obtain⟨d,hd,hc⟩:=hc;split at hc
 case h_2=>cases hc
 rename_i fields;simp only[qQQ]at hc;obtain⟨fd,hfd,g,hg,hc⟩:=hc;have qz:execOp a.eval o=(do pure (.value (<-Instr.field s (a.eval x) f))):=by unfold execOp;rw[ho]
 rw[qz]
 have eX:∀l':Array Value,(Instr.field s (.agg l') f).run P w=(part fd.type l' fd.offset).run P w:=by
  intro l';unfold Instr.field;simp only[Sem.run_bind,hE.bz hd,Result.andThen_ok,hfd,asAgg,Sem.run_pure]
 cases g with
 |true =>
  simp only[if_true,qQQ]at hc;obtain⟨n,hn,c,fX,hc⟩:=hc;cases hc;simp only[aC,I.mY,iv,qQJ,qQA]at hs;obtain⟨l,hp,rfl,rfl⟩:=hs;have vx:=aB hf fX;rw[hp]at vx;obtain⟨l',e,ic,hl⟩:=vx.kT;obtain⟨v',h1,h2⟩:=(qN (w:=w) hE (t:=fd.type) hl ic (off:=fd.offset)).1 n hg hn;rw[cW,df,e];exact .fc (by rw[eX];exact h1) h2 H
 |false =>
  simp only[qZJ,if_false,qQQ]at hc;obtain⟨c,fX,hc⟩:=hc;cases hc;simp only[aC,I.lV,iv,av,fT,qQJ,qQA]at hs;obtain⟨l,hp,u,hu,rfl,rfl⟩:=hs;have vx:=aB hf fX;rw[hp]at vx;obtain⟨l',e,ic,hl⟩:=vx.kT;obtain⟨v',h1,h2⟩:=(qN (w:=w) hE (t:=fd.type) hl ic (off:=fd.offset)).2 u hg hu;rw[e];exact .fc (by rw[eX];exact h1) h2 H
def V.eW {b o n c:Nat}{ex:Bool}{v:Value}(h:V ρ (.slice b o n c ex) v) :
 (∃r c',ρ b=some r/\v=.slice (some ⟨r.b,o+r.d,none⟩) n c'/\n<=c/\(ex=true->c'=c)/\(ex=false->c<=c'/\∃z e,r.k=some (z,e)/\o+c'*z<=e)) \/
 (n=0/\c=0/\∃ad,v=.slice (some ad) 0 0):=by
 cases h with
 |slice h1 h2 h3 h4=>exact .inl ⟨_,_,h1,rfl,h2,h3,h4⟩
 |sH=>exact .inr ⟨rfl,rfl,_,rfl⟩
def Cd (hE:bl E P)(t:TypeId)(x y:Operand):tl E P K W0 (.indexAddr t x y):=by
 intro ρ fr h w a o co v h' ho hc hf H hs;simp only[iJ,qQV,qQQ]at hc;obtain⟨d,hd,hc⟩:=hc;have qz:execOp a.eval o=(do pure (.value (<-Instr.indexAt t (a.eval x) (a.eval y)))):=by unfold execOp;rw[ho]
 rw[qz];split at hc
 .rename_i len elem;simp only[qQQ]at hc;obtain⟨size,iq,cx,hx,cy,hy,hc⟩:=hc;cases hc;simp only[aC,I.nR,cZ,eV,aG,qJE,qQJ,qQA]at hs;obtain⟨b,off,hp,k,i,hi,dL,rfl,rfl⟩:=hs;have vx:=aB hf hx;rw[hp]at vx;obtain⟨r,hr,e⟩:=vx.gv;rw[e,kV (aB hf hy) hi];refine .fc (v':=.pointer (some ⟨r.b,off+r.d+i*size,none⟩)) ?_ ?_ H
  .unfold Instr.indexAt;simp only[asIntOf,Sem.run_bind,Sem.run_pure,Result.andThen_ok,hE.bz hd,Instr.sureAddr];rw[if_pos (by omega)];simp only[Sem.run_bind,hE.gy iq,Result.andThen_ok,Sem.run_pure,add_eq,qWJ]
  .have:=V.ptr (ρ:=ρ) (o:=off+i*size) hr;rw[show off+r.d+i*size=off+i*size+r.d by omega];exact this
 .rename_i elem;simp only[qQQ]at hc;obtain⟨size,iq,cx,hx,cy,hy,hc⟩:=hc;cases hc;simp only[aC,I.kz,dI,eV,aG,qJE,qQJ,qQA]at hs;rcases hs with⟨_,hs⟩|⟨b,off,n,c,ex,hp,k,i,hi,dL,rfl,rfl⟩
  .cases hs
  have vx:=aB hf hx;rw[hp]at vx;rcases vx.eW with⟨r,c',hr,e,_⟩|⟨rfl,_⟩
  .rw[e,kV (aB hf hy) hi];refine .fc (v':=.pointer (some ⟨r.b,off+r.d+i*size,none⟩)) ?_ ?_ H
   .unfold Instr.indexAt;simp only[asIntOf,Sem.run_bind,Sem.run_pure,Result.andThen_ok,hE.bz hd];rw[if_pos (by omega)];simp only[Sem.run_bind,hE.gy iq,Result.andThen_ok,Sem.run_pure,add_eq,qWJ]
   .have:=V.ptr (ρ:=ρ) (o:=off+i*size) hr;rw[show off+r.d+i*size=off+i*size+r.d by omega];exact this
  .omega
 .cases hc
def O9 (hE:bl E P)(t:TypeId)(x y:Operand):tl E P K W0 (.index t x y):=by
 intro ρ fr h w a o co v h' ho hc hf H hs;simp only[iJ,qQV,qQQ]at hc;obtain⟨d,hd,hc⟩:=hc;have qz:execOp a.eval o=(do pure (.value (<-Instr.index t (a.eval x) (a.eval y)))):=by unfold execOp;rw[ho]
 rw[qz];split at hc
 .rename_i len elem;simp only[qQQ]at hc;obtain⟨g,hg,hc⟩:=hc
  have eX:∀(l':Array Value)(k:IntKind)(i n:Nat),i<len->E.size elem=some n->(Instr.index t (.agg l') (.int k (i:Int))).run P w=(part elem l' (i*n)).run P w:=by
   intro l' k i n hi hn;unfold Instr.index;simp only[asIntOf,Sem.run_bind,Sem.run_pure,Result.andThen_ok,hE.bz hd];rw[if_pos (by omega)];simp only[Sem.run_bind,hE.gy hn,Result.andThen_ok,qWJ]
  cases g with
  |true =>
   simp only[if_true,qQQ]at hc;obtain⟨n,hn,cx,hx,cy,hy,hc⟩:=hc;cases hc;simp only[aC,I.vN,iv,eV,aG,qJE,qQJ,qQA]at hs;obtain⟨l,hp,k,i,hi,dL,rfl,rfl⟩:=hs;have vx:=aB hf hx;rw[hp]at vx;obtain⟨l',e,ic,hl⟩:=vx.kT;obtain⟨v',h1,h2⟩:=(qN (w:=w) hE (t:=elem) hl ic (off:=i*n)).1 n hg hn;rw[cW,df,e,kV (aB hf hy) hi];exact .fc (by rw[eX _ _ _ _ dL hn];exact h1) h2 H
  |false =>
   simp only[qZJ,if_false,qQQ]at hc;obtain⟨n,hn,cx,hx,cy,hy,hc⟩:=hc;cases hc;simp only[aC,I.vM,iv,eV,aG,qJE,av,fT,qQJ,qQA]at hs;obtain⟨l,hp,k,i,hi,dL,u,hu,rfl,rfl⟩:=hs;have vx:=aB hf hx;rw[hp]at vx;obtain⟨l',e,ic,hl⟩:=vx.kT;obtain⟨v',h1,h2⟩:=(qN (w:=w) hE (t:=elem) hl ic (off:=i*n)).2 u hg hu;rw[e,kV (aB hf hy) hi];exact .fc (by rw[eX _ _ _ _ dL hn];exact h1) h2 H
 .simp only[qQQ]at hc;obtain⟨cx,hx,cy,hy,hc⟩:=hc;cases hc;simp only[aC,I.kh,fB,eV,av,fT,qQJ,qQA]at hs;obtain⟨s,hp,k,i,hi,u,hu,rfl,rfl⟩:=hs;have vx:=aB hf hx;rw[hp]at vx;obtain⟨bs,e,wD⟩:=vx.kq;rw[e,kV (aB hf hy) hi];rw[<-wD,qQX,qQC]at hu;obtain⟨b,hb,rfl⟩:=hu;refine .fc (v':=.int .u8 (b.toNat:Int)) ?_ (.int _ _) H;unfold Instr.index;simp only[asIntOf,Sem.run_bind,Sem.run_pure,Result.andThen_ok,hE.bz hd]
  have:bs[i]?=some b:=by
   have dL:=(qQZ.1 hb);obtain⟨h1,h2⟩:=dL;have Iu:i<bs.size:=by simpa using h1
   rw[show bs[i]?=(if h:i<bs.size then some bs[i] else none) from rfl,dif_pos Iu];rw[<-h2];rfl
  rw[if_pos (by omega),qWJ,this];rfl
 .cases hc
def xV {x:Option au}{x':Option Operand}(hx:zA x'=some x)(hf:FR ρ fr a.tmps){d y u:Nat}(h:dA (jE x fr) d y=some u) :
 (x'=none/\u=d)\/(∃o,x'=some o/\u<=y/\∀code,(Instr.sliceBound (a.eval o) y code).run P w=.ok u w):=by
 cases x' with
 |none =>
  simp only[zA,qQJ]at hx;subst hx;simp only[jE,dA,qQJ]at h;exact .inl ⟨rfl,h.symm⟩
 |some o =>
  simp only[zA,qQC]at hx;obtain⟨c,hc,rfl⟩:=hx;have h':(js (aJ c fr) λi=>aO (Nat.ble i y) (some i) none)=some u:=h;simp only[eV,aG,qZB,qQJ]at h';obtain⟨k,n,hn,hle,rfl⟩:=h';refine .inr ⟨o,rfl,hle,λcode=>?_⟩;rw[kV (aB hf hc) hn];unfold Instr.sliceBound;simp only[asIntOf,Sem.run_bind,Sem.run_pure,Result.andThen_ok];rw[if_pos (by omega)];simp
def ke (hf:FR ρ fr a.tmps){lo hi mx:Option Operand}{clo Zh cmx:Option au}(y6:zA lo=some clo)(Og:zA hi=some Zh)(Iz:zA mx=some cmx){isS:Bool}{len cap cap' m u l:Nat}
 (hm:dA (jE cmx fr) cap cap=some m) (hu:dA (jE Zh fr) len m=some u) (hl:dA (jE clo fr) 0 u=some l) (lL:cap<=cap') (nN:(mx.isSome && hi.isNone)=false) :
 ∃m',(Instr.sliceBounds isS len cap' (lo.map a.eval) (hi.map a.eval) (mx.map a.eval)).run P w=.ok (l,u,m') w/\(mx.isSome=true->m'=m/\m<=cap)/\(mx.isSome=false->m'=cap'/\m=cap)/\(hi=none->u=len)/\(hi.isSome=true->u<=m)/\(lo=none->l=0)/\(lo.isSome=true->l<=u):=by
 have e0:∀(z:Option Operand){c:Option au}{d y y' u:Nat}(code:BoundsCode),zA z=some c->dA (jE c fr) d y=some u->y<=y'->z.isSome=true->∃o,z=some o/\u<=y/\(Instr.sliceBound (a.eval o) y' code).run P w=.ok u w:=by
  intro z c d y y' u code hz hb hy hs;rcases xV (P:=P) (w:=w) hz hf hb with⟨rfl,_⟩|⟨o,rfl,hle,eX⟩
  .cases hs
  .refine⟨o,rfl,hle,?_⟩
   have wX:dA (jE c fr) d y'=some u:=by
    simp only[zA,qQC]at hz;obtain⟨cc,kE,rfl⟩:=hz;have h':(js (aJ cc fr) λi=>aO (Nat.ble i y) (some i) none)=some u:=hb;show(js (aJ cc fr) λi=>aO (Nat.ble i y') (some i) none)=some u;simp only[eV,aG,qZB,qQJ]at h' ⊢;obtain⟨k,n,hn,hle,rfl⟩:=h';exact⟨k,n,hn,by omega,rfl⟩
   rcases xV (P:=P) (w:=w) hz hf wX with⟨h,_⟩|⟨o',uR,_,agT⟩
   .cases h
   .cases uR;exact agT code
 cases mx with
 |none =>
  simp only[zA,qQJ] at Iz;subst Iz;simp only[jE,dA,qQJ]at hm;subst hm;cases hi with
  |none =>
   simp only[zA,qQJ] at Og;subst Og;simp only[jE,dA,qQJ]at hu;subst hu;cases lo with
   |none =>
    simp only[zA,qQJ]at y6;subst y6;simp only[jE,dA,qQJ]at hl;subst hl;exact⟨cap',by simp[Instr.sliceBounds],by simp,by simp,by simp,by simp,by simp,by simp⟩
   |some ol =>
    obtain⟨o,ho,hle,eX⟩:=e0 (some ol) .sliceB y6 hl (qQY _) rfl;cases ho;exact⟨cap',by simp[Instr.sliceBounds,eX],by simp,by simp,by simp,by simp,by simp,by simp[hle]⟩
  |some oh =>
   obtain⟨o,ho,hle,eX⟩:=e0 (some oh) (if isS then .sliceAcap else .sliceAlen) Og hu lL rfl;cases ho;cases lo with
   |none =>
    simp only[zA,qQJ]at y6;subst y6;simp only[jE,dA,qQJ]at hl;subst hl;exact⟨cap',by simp[Instr.sliceBounds,eX],by simp,by simp,by simp,by simp[hle],by simp,by simp⟩
   |some ol =>
    obtain⟨o2,GM,aS,Tr⟩:=e0 (some ol) .sliceB y6 hl (qQY _) rfl;cases GM;exact⟨cap',by simp[Instr.sliceBounds,eX,Tr],by simp,by simp,by simp,by simp[hle],by simp,by simp[aS]⟩
 |some om =>
  obtain⟨o1,ho1,bh,Z4⟩:=e0 (some om) (if isS then .slice3Acap else .slice3Alen) Iz hm lL rfl;cases ho1;cases hi with
  |none=>simp at nN
  |some oh =>
   obtain⟨o,ho,hle,eX⟩:=e0 (some oh) .slice3B Og hu (qQY _) rfl;cases ho;cases lo with
   |none =>
    simp only[zA,qQJ]at y6;subst y6;simp only[jE,dA,qQJ]at hl;subst hl;exact⟨m,by simp[Instr.sliceBounds,eX,Z4],by simp[bh],by simp,by simp,by simp[hle],by simp,by simp⟩
   |some ol =>
    obtain⟨o2,GM,aS,Tr⟩:=e0 (some ol) .slice3C y6 hl (qQY _) rfl;cases GM;exact⟨m,by simp[Instr.sliceBounds,eX,Z4,Tr],by simp[bh],by simp,by simp,by simp[hle],by simp,by simp[aS]⟩
def Pb (hE:bl E P)(t:TypeId)(x:Operand)(lo hi mx:Option Operand):tl E P K W0 (.slice t x lo hi mx):=by
 intro ρ fr h w a o co v h' ho hc hf H hs;simp only[iJ,qQV,qQQ]at hc;obtain⟨d,hd,hc⟩:=hc;have qz:execOp a.eval o=(do pure (.value (<-Instr.sliceAt t (a.eval x) (lo.map a.eval) (hi.map a.eval) (mx.map a.eval)))):=by unfold execOp;rw[ho]
 rw[qz];have jW:=λw=>hE.bz hd w;split at hc
 .
  split at hc
  .cases hc
  rename_i Iz;have ab3:mx=none:=by cases mx<;>simp_all
  subst ab3;simp only[qQQ]at hc;obtain⟨cx,fX,clo,y6,Zh,Og,hc⟩:=hc;cases hc;simp only[aC,I.nk,fB,av,bV,qQJ,qQA]at hs;obtain⟨s,hp,u,hu,l,hl,rfl,rfl⟩:=hs;have vx:=aB hf fX;rw[hp]at vx;obtain⟨bs,e,wD⟩:=vx.kq;have hlen:s.length=bs.size:=by rw[<-wD];simp
  obtain⟨m',eX,_⟩:=ke (P:=P) (w:=w) (isS:=false) hf y6 Og (cmx:=none) (mx:=none) rfl (cap:=s.length) (m:=s.length) (len:=s.length) (cap':=s.length) rfl hu hl (qQY _) rfl;rw[e,df,cW];refine .fc (v':=.string (bs.extract l u)) ?_ (.str ?_) H
  .unfold Instr.sliceAt;simp only[Sem.run_bind,jW,Result.andThen_ok];unfold Instr.slice;simp only[Sem.run_bind,jW,Result.andThen_ok,Option.map_none];rw[hlen]at eX;simp only[Option.map_none]at eX;simp[eX]
  .rw[<-wD];simp[List.drop_take,qVK,<-List.map_drop,<-List.map_take]
 .
  rename_i elem;simp only[qQQ]at hc;obtain⟨size,iq,cx,fX,clo,y6,Zh,Og,cmx,Iz,hc⟩:=hc;cases hc;have ar:I.qR elem size cx clo Zh cmx fr h=some (v,h'):=hs;unfold I.qR at ar;rw[bq]at ar;split at ar
  .cases ar
  rename_i nN
  have cm:∀(z:Option Operand)(c:Option au),zA z=some c->c.isSome=z.isSome:=by
   intro z c hz;cases z with
   |none=>simp[zA]at hz;subst hz;rfl
   |some o=>simp only[zA,qQC]at hz;obtain⟨cc,_,rfl⟩:=hz;rfl
  have B4:(mx.isSome && hi.isNone)=false:=by
   have h1:=cm _ _ Iz;have h2:=cm _ _ Og;have h3:Zh.isNone=hi.isNone:=by cases Zh<;>cases hi<;>simp_all
   rw[h1,h3]at nN;cases hb:(mx.isSome && hi.isNone)
   .rfl
   .exact(nN hb).elim
  have LY:=cm _ _ Iz;rw[dI]at ar;have vx:=aB hf fX
  have hrs:∀(ad:Option Addr)(len cap:Nat),(Instr.sliceAt t (.slice ad len cap) (lo.map a.eval) (hi.map a.eval) (mx.map a.eval)).run P w =
      ((Instr.sliceBounds true len cap (lo.map a.eval) (hi.map a.eval) (mx.map a.eval)).run P w).andThen λq w'=>.ok (.slice (if q.2.2=q.1 then ad else ad.map (·.add (q.1*size))) (q.2.1-q.1) (q.2.2-q.1)) w':=by
   intro ad len cap;unfold Instr.sliceAt;simp only[Sem.run_bind,jW,Result.andThen_ok];unfold Instr.slice;simp only[Sem.run_bind,jW,Result.andThen_ok];congr 1;funext q w';simp only[hE.gy iq,Result.andThen_ok,Sem.run_pure]
  rcases ar with⟨hp,ar⟩|⟨b,off,n,c,ex,hp,ar⟩
  .simp only[av,qQJ,qQA]at ar;obtain⟨m,hm,u,hu,l,hl,rfl,rfl⟩:=ar;rw[hp]at vx;rw[vx.fF];obtain⟨m',eX,q1,q2,q3,q4,q5,q6⟩:=ke (P:=P) (w:=w) (isS:=true) hf y6 Og Iz hm hu hl (qQY _) B4;refine .fc (v':=.slice none 0 0) ?_ .af H;rw[hrs,eX];simp only[Result.andThen_ok]
   have ZS:m'=0/\m=0:=by
    cases hb:mx.isSome
    .have:=q2 hb;omega
    .have:=q1 hb;omega
   have XI:u=0:=by cases hi with
    |none=>exact q3 rfl
    |some _=>have:=q4 rfl;omega
   have Xv:l=0:=by cases lo with
    |none=>exact q5 rfl
    |some _=>have:=q6 rfl;omega
   simp[ZS.1,XI,Xv]
  .simp only[av,qQJ,qQA]at ar;obtain⟨m,hm,u,hu,l,hl,ck,Gz,rfl,rfl⟩:=ar;rw[hp]at vx;rcases vx.eW with⟨r,c',hr,e,XB,hex,Al⟩|⟨rfl,rfl,ad,e⟩
   .have kE:c<=c':=by
     cases ex with
     |true=>rw[hex rfl];exact qQY _
     |false=>exact(Al rfl).1
    obtain⟨m',eX,q1,q2,q3,q4,q5,q6⟩:=ke (P:=P) (w:=w) (isS:=true) hf y6 Og Iz hm hu hl kE B4
    have hum:u<=m:=by cases hi with
     |none =>
      have:=q3 rfl;cases hb:mx.isSome
      .have:=q2 hb;omega
      .rw[hb] at B4;simp at B4
     |some _=>exact q4 rfl
    have hlu:l<=u:=by cases lo with
     |none=>rw[q5 rfl];exact qZH _
     |some _=>exact q6 rfl
    have hmm:m<=m':=by
     cases hb:mx.isSome
     .have:=q2 hb;omega
     .have:=q1 hb;omega
    rw[e];refine .fc (v':=.slice (if m'=l then some ⟨r.b,off+r.d,none⟩ else some ⟨r.b,off+r.d+l*size,none⟩) (u-l) (m'-l)) ?_ ?_ H
    .rw[hrs,eX];simp only[Result.andThen_ok,qWB,add_eq]
    .by_cases DW:m'=l
     .rw[if_pos DW];have e1:m'-l=0:=by omega
      have e2:u-l=0:=by omega
      have e3:m.sub l=0:=by show m-l=0;omega
      have e4:u.sub l=0:=e2;rw[e1,e2,e3,e4];exact .sH
     .rw[if_neg DW]
      have hv:V ρ (.slice b (off+l*size) (u-l) (m-l) (ex || cmx.isSome)) (.slice (some ⟨r.b,off+l*size+r.d,none⟩) (u-l) (m'-l)):=by
       refine .slice hr (by omega) (λhb=>?_) (λhb=>?_)
       .rw[qKC]at hb;rcases hb with hb|hb
        .subst hb;cases wX:mx.isSome
         .have:=q2 wX;have:=hex rfl;omega
         .have:=q1 wX;omega
        .rw[LY]at hb;have:=q1 hb;omega
       .rw[Bool.or_eq_false_iff]at hb;obtain⟨rfl,hb⟩:=hb;have vC:mx.isSome=false:=by rw[<-LY];exact hb
        have:=q2 vC;obtain⟨hle,z,x,hk,aS⟩:=Al rfl;refine⟨by omega,z,x,hk,?_⟩
        have hz:l=0\/size=z:=by
         rw[bq] at Gz;simp only[Bool.false_or,hb,qZX] at Gz;by_cases Xv:l=0
         .exact .inl Xv
         .rw[if_neg (by simpa using Xv)] at Gz;obtain⟨ll,ee,own,di,Gz⟩:=fw Gz;rw[aG,qZX] at Gz;obtain⟨C,fz,_,_,_,_,h7,_⟩:=iR H di hr;right;rw[<-(h7 z x hk).2,Gz.1,hE.cellsOf iq]
        rcases hz with rfl|rfl
        .simp at aS ⊢;rw[this.1];omega
        .have e5:m'=c':=this.1;have e6:l*size+(m'-l)*size=m'*size:=by rw[<-qWX];congr 1;omega
         rw[e5]at e6 ⊢;omega
      rw[show off+r.d+l*size=off+l*size+r.d by omega];exact hv
   .obtain⟨m',eX,q1,q2,q3,q4,q5,q6⟩:=ke (P:=P) (w:=w) (isS:=true) hf y6 Og Iz hm hu hl (qQY _) B4
    have ZS:m'=0/\m=0:=by
     cases hb:mx.isSome
     .have:=q2 hb;omega
     .have:=q1 hb;omega
    have XI:u=0:=by cases hi with
     |none=>exact q3 rfl
     |some _=>have:=q4 rfl;omega
    have Xv:l=0:=by cases lo with
     |none=>exact q5 rfl
     |some _=>have:=q6 rfl;omega
    rw[e];refine .fc (v':=.slice (some ad) 0 0) ?_ ?_ H
    .rw[hrs,eX];simp[ZS.1,XI,Xv]
    .rw[XI,Xv,ZS.2];exact .sH
 .
  rename_i n elem;split at hc
  .cases hc
  rename_i Iz;have ab3:mx=none:=by cases mx<;>simp_all
  subst ab3;simp only[qQQ]at hc;obtain⟨size,iq,cx,fX,clo,y6,Zh,Og,hc⟩:=hc;cases hc;simp only[aC,I.ox,cZ,av,qQJ,qQA]at hs;obtain⟨b,off,hp,u,hu,l,hl,rfl,rfl⟩:=hs;have vx:=aB hf fX;rw[hp]at vx;obtain⟨r,hr,e⟩:=vx.gv;obtain⟨m',eX,q1,q2,q3,q4,q5,q6⟩:=ke (P:=P) (w:=w) (isS:=false) hf y6 Og (cmx:=none) (mx:=none) rfl (cap:=n) (m:=n) (len:=n) (cap':=n) rfl hu hl (qQY _) rfl;have hm:m'=n:=(q2 rfl).1;subst hm
  have hum:u<=m':=by cases hi with
   |none=>rw[q3 rfl];exact qQY _
   |some _=>exact q4 rfl
  have hlu:l<=u:=by cases lo with
   |none=>rw[q5 rfl];exact qZH _
   |some _=>exact q6 rfl
  rw[e];refine .fc (v':=.slice (some (if m'=l then⟨r.b,off+r.d,none⟩ else⟨r.b,off+r.d+l*size,none⟩)) (u-l) (m'-l)) ?_ ?_ H
  .unfold Instr.sliceAt;simp only[Sem.run_bind,jW,Result.andThen_ok,Instr.sureAddr,Sem.run_pure];rw[eX];simp only[Result.andThen_ok,hE.gy iq,add_eq]
  .by_cases DW:m'=l
   .rw[if_pos DW];have e1:m'-l=0:=by omega
    have e2:u-l=0:=by omega
    have e3:m'.sub l=0:=e1;have e4:u.sub l=0:=e2;rw[e1,e2,e3,e4];exact .sH
   .rw[if_neg DW,show off+r.d+l*size=off+l*size+r.d by omega];exact .slice hr (by show u-l<=m'-l;omega) (λ_=>rfl) (λh=>by cases h)
 .cases hc
def HD (x:Operand)(i:Nat):tl E P K W0 (.extract x i):=by
 intro ρ fr h w a o co v h' ho hc hf H hs;simp only[iJ,qQV,qQQ]at hc;obtain⟨c,fX,hc⟩:=hc;cases hc;simp only[aC,I.extract,A7,av,fT,qQJ,qQA]at hs;obtain⟨l,hp,u,hu,rfl,rfl⟩:=hs;have vx:=aB hf fX;rw[hp]at vx;obtain⟨l',e,hl⟩:=vx.YI;obtain⟨v',h1,h2⟩:=hl.get hu;have qz:execOp a.eval o=(do pure (.value (<-Instr.extract (a.eval x) i))):=by unfold execOp;rw[ho]
 rw[qz,e];refine .fc (v':=v') ?_ h2 H;unfold Instr.extract;simp only[show l'[i]?=some v' by simpa using h1];rfl
def KG (hE:bl E P)(x:Operand)(xt t:TypeId)(ok:Bool):tl E P K W0 (.typeAssert x xt t ok):=by
 intro ρ fr h w a o co v h' ho hc hf H hs;simp only[iJ,qQV,qQQ]at hc;obtain⟨d,hd,hc⟩:=hc;split at hc
 .cases hc
 rename_i Ol;simp only[qQQ]at hc;obtain⟨z,hz,c,fX,hc⟩:=hc;cases hc;obtain⟨zv,hr,hv⟩:=hE.zero hz;have qz:execOp a.eval o=(do pure (.value (<-Instr.typeAssert (a.eval x) xt t ok))):=by unfold execOp;rw[ho]
 rw[qz];simp only[aC,I.assert,qL]at hs;have vx:=aB hf fX;have jW:=λw=>hE.bz hd w;rcases hs with⟨hp,hs⟩|⟨u,y,hp,hs⟩
 .rw[aG]at hs;obtain⟨rfl,hs⟩:=hs;simp only[qQJ,qQA]at hs;obtain⟨rfl,rfl⟩:=hs;rw[hp]at vx;rw[vx.En];refine .fc (v':=.tuple #[zv,.bool false]) ?_ (.eC (.cons (hv ρ) (.cons (.bool _) .nil))) H;unfold Instr.typeAssert;simp only[Sem.run_bind,jW,Result.andThen_ok];cases d<;>first|(exact absurd rfl (Ol _))|simp[hr]
 .rw[hp]at vx;obtain⟨y',e,vy⟩:=vx.xf;rw[e];rw[bq]at hs;split at hs
  .rename_i Fc;rw[qZX] at Fc;subst Fc;simp only[qQJ,qQA]at hs;obtain⟨rfl,rfl⟩:=hs;cases ok with
   |true =>
    refine .fc (v':=.tuple #[y',.bool true]) ?_ (.eC (.cons vy (.cons (.bool _) .nil))) H;unfold Instr.typeAssert;simp only[Sem.run_bind,jW,Result.andThen_ok];cases d<;>first|(exact absurd rfl (Ol _))|simp
   |false =>
    refine .fc (v':=y') ?_ vy H;unfold Instr.typeAssert;simp only[Sem.run_bind,jW,Result.andThen_ok];cases d<;>first|(exact absurd rfl (Ol _))|simp
  .rename_i Fc;rw[aG]at hs;obtain⟨rfl,hs⟩:=hs;simp only[qQJ,qQA]at hs;obtain⟨rfl,rfl⟩:=hs;have alG:¬u=t:=by simpa using Fc
   refine .fc (v':=.tuple #[zv,.bool false]) ?_ (.eC (.cons (hv ρ) (.cons (.bool _) .nil))) H;unfold Instr.typeAssert;simp only[Sem.run_bind,jW,Result.andThen_ok];cases d<;>first|(exact absurd rfl (Ol _))|simp[hr,alG]
def EL.length:∀{l:List (ae×ae×Nat)}{l':List MapEntry},EL ρ l l'->l.length=l'.length
 |_,_,.nil=>rfl
 |_,_,.cons _ _ _ h=>by simp[EL.length h]
def qC (H:WR P K W0 ρ h w){b:Nat}{r:RB}{es:List (ae×ae×Nat)}{c:Nat}(hb:h.get b=some (.map es c))(hr:ρ b=some r) :
 ∃dX,w.heap[r.b]?=some (.map dX c)/\EL ρ es dX.toList/\r.d=0:=by
 obtain⟨s,hs,_,h0,dX,h1,h2⟩:=H.obj b _ hb trivial;rw[hr]at hs;cases hs;exact⟨dX,h1,h2,h0⟩
def cD {w:World}{b:Nat}{dX:Array MapEntry}{c:Nat}(hb:w.heap[b]?=some (.map dX c)):(getObj b).run P w=.ok (.map dX c) w:=by
 simp[getObj,Sem.run,hb]
def Yd (hE:bl E P){c0:Call}(h0:c0.callee=.builtin .len){x:Operand}(uq:c0.args.toList=[x]){t:TypeId}(ht:c0.argTypes[0]?=some t)
 {o:Oper} {co:dS} {v:ae} {h':aa} (ho:o.op=.call c0) (hc:IV E t x=some co) (hf:FR ρ fr a.tmps) (H:WR P K W0 ρ h w) (hs:aC co fr h=some (v,h')) :
 Sound P (execOp a.eval o) K W0 ρ w v h':=by
 simp only[IV,qQV,qQQ]at hc;obtain⟨d,hd,hc⟩:=hc;have jW:=λw=>hE.bz hd w;have dG:c0.args.map a.eval=#[a.eval x]:=by apply qKG;simp[uq]
 have kx:execOp a.eval o=(do pure (.value (<-Builtin.len_ c0.argTypes o.type #[a.eval x]))):=by
  unfold execOp;rw[ho];simp only[resolve,h0,dG];rfl
 rw[kx];split at hc
 .simp only[qQQ]at hc;obtain⟨c,fX,hc⟩:=hc;cases hc;simp only[aC,I.len,fB,bV,qQJ,qQA]at hs;obtain⟨s,hp,rfl,rfl⟩:=hs;have vx:=aB hf fX;rw[hp]at vx;obtain⟨bs,e,wD⟩:=vx.kq;rw[e];refine .fc (v':=goInt bs.size) (by unfold Builtin.len_;simp[ht,jW]) ?_ H;rw[<-wD];have:(List.map UInt8.toNat bs.data.toList).length=bs.size:=by simp
  rw[this];exact .int _ _
 .simp only[qQQ]at hc;obtain⟨c,fX,hc⟩:=hc;cases hc;simp only[aC,I.len,dI]at hs;have vx:=aB hf fX;rcases hs with⟨hp,hs⟩|⟨b,off,n,cap,ex,hp,hs⟩
  .simp only[qQJ,qQA]at hs;obtain⟨rfl,rfl⟩:=hs;rw[hp]at vx;rw[vx.fF];exact .fc (v':=goInt 0) (by unfold Builtin.len_;simp[ht,jW]) (.int _ _) H
  .simp only[qQJ,qQA]at hs;obtain⟨rfl,rfl⟩:=hs;rw[hp]at vx;rcases vx.eW with⟨r,c',hr,e,_⟩|⟨rfl,rfl,ad,e⟩
   .rw[e];exact .fc (v':=goInt n) (by unfold Builtin.len_;simp[ht,jW]) (.int _ _) H
   .rw[e];exact .fc (v':=goInt 0) (by unfold Builtin.len_;simp[ht,jW]) (.int _ _) H
 .simp only[qQQ]at hc;obtain⟨c,fX,hc⟩:=hc;cases hc;simp only[aC,I.len,jc]at hs;have vx:=aB hf fX;rcases hs with⟨hp,hs⟩|⟨m,hp,hs⟩
  .simp only[qQJ,qQA]at hs;obtain⟨rfl,rfl⟩:=hs;rw[hp]at vx;rw[vx.uz];exact .fc (v':=goInt 0) (by unfold Builtin.len_;simp[ht,jW]) (.int _ _) H
  .simp only[fK,bV,qQJ,qQA]at hs;obtain⟨es,ck,hm,rfl,rfl⟩:=hs;rw[hp]at vx;obtain⟨r,hr,e⟩:=vx.s5;obtain⟨dX,h1,h2,_⟩:=qC H hm hr;rw[e];refine .fc (v':=goInt dX.size) ?_ ?_ H
   .unfold Builtin.len_;simp[ht,jW,cD h1]
   .have:=h2.length;simp at this;rw[this];exact .int _ _
 .rename_i n el;simp only[qQQ]at hc;obtain⟨c,fX,hc⟩:=hc;cases hc;simp only[aC,I.len,qQJ,qQA]at hs;obtain⟨rfl,rfl⟩:=hs;exact .fc (v':=goInt n) (by unfold Builtin.len_;simp[ht,jW]) (.int _ _) H
 .rename_i arr;simp only[qQQ]at hc;obtain⟨da,hda,hc⟩:=hc;split at hc
  case h_2=>cases hc
  rename_i n el;simp only[qQQ]at hc;obtain⟨c,fX,hc⟩:=hc;cases hc;simp only[aC,I.len,qQJ,qQA]at hs;obtain⟨rfl,rfl⟩:=hs;refine .fc (v':=goInt n) ?_ (.int _ _) H;unfold Builtin.len_;simp[ht,jW,λw=>hE.bz hda w]
 .cases hc
def Az {k:IntKind}{isMax:Bool}:∀{l:List ae}{l':List Value}{m:Int}{v:ae},VL ρ l l'->I.mW isMax k l m=some v ->
 ∃v',(l'.foldlM (if isMax then Builtin.max2 else Builtin.min2) (.int k m)).run P w=.ok v' w/\V ρ v v':=by
 intro l
 induction l with
 |nil =>
  intro l' m v hl hs;cases hl;simp only[I.mW,qQJ]at hs;subst hs;exact⟨_,rfl,.int _ _⟩
 |cons x l ih =>
  intro l' m v hl hs;cases hl with
  |cons hx hl =>
   have ar:(jr x λ_ y=>I.mW isMax k l (aO isMax (aO (Km m y) y m) (aO (Km y m) y m)))=some v:=hs;rw[fA]at ar;obtain⟨k',y,rfl,ar⟩:=ar;rw[hx.eZ];obtain⟨v',h1,h2⟩:=ih hl ar;refine⟨v',?_,h2⟩;rw[List.foldlM_cons,Sem.run_bind];cases isMax with
   |true =>
    simp only[bq,lN,decide_eq_true_eq,if_true]at h1 ⊢;simp only[Builtin.max2,Sem.run_pure,Result.andThen_ok,gt_iff_lt];exact h1
   |false =>
    simp only[bq,lN,decide_eq_true_eq,qZJ,if_false]at h1 ⊢;simp only[Builtin.min2,Sem.run_pure,Result.andThen_ok];exact h1
end
end Go.AX
