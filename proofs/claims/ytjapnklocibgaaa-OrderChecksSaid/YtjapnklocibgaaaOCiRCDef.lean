/- Part 2 of the texts of this claim: a symbolic executor and contracts of functions. -/
import Derived.Test.YtjapnklocibgaaaOCiRCBase
import Derived.Deep.MidRow
import Derived.Deep.Upon
import Derived.Orders
namespace Go.Proofs.Ytjapnklocibgaaa.Sx
open Go Go.RowKit
set_option linter.unusedVariables false
universe u
abbrev Mem:=Nat→Option Obj
structure Blk where
 b:Nat
 n:Nat
abbrev Rho:=Nat→Option Blk
inductive AV where
 | ext (v:Value)
 | gd (g:Bool) (v:Value)
 | own (k off:Nat)
 | gown (g:Bool) (k off:Nat)
 | slo (k off len z:Nat)
 | fn (f:FuncId) (caps:List AV)
 | bm (f:FuncId) (recv:List AV)
 | ag (t:Bool) (l:List AV)
 | unk
abbrev Env:=List (Nat×AV)
abbrev Hp:=List (Nat×TypeId×List AV)
def lk:Env→Nat→AV
 | [],_=>.unk
 | (t,v) :: r,x=>if t=x then v else lk r x
def lkH:Hp→Nat→Option (TypeId×List AV)
 | [],_=>none
 | (t,v) :: r,x=>if t=x then some v else lkH r x
def upH:Hp→Nat→List AV→Hp
 | [],_,_=>[]
 | (t,T,v) :: r,x,cs=>if t=x then (t,T,cs) :: r else (t,T,v) :: upH r x cs
structure St where
 env:Env
 hp:Hp
 M:Mem
 kb:Nat
 fx:List Nat
 fr:List Nat:=[]
mutual
def AV.ment:AV→List Nat
 | .own k _=>[k]
 | .gown _ k _=>[k]
 | .slo k _ _ _=>[k]
 | .fn _ l=>mentL l
 | .bm _ l=>mentL l
 | .ag _ l=>mentL l
 | .ext _=>[]
 | .gd _ _=>[]
 | .unk=>[]
def mentL:List AV→List Nat
 | []=>[]
 | v :: r=>v.ment++mentL r
end
def mentE:Env→List Nat
 | []=>[]
 | (_,v) :: r=>v.ment++mentE r
def mentH:Hp→List Nat
 | []=>[]
 | (k,_,cs) :: r=>k :: (mentL cs++mentH r)
def hasK(k:Nat):List Nat→Bool
 | []=>false
 | j :: r=>j==k || hasK k r
def St.put(s:St)(d:Option Nat)(v:AV):St:=
 match d with
 | some d=>{s with env:=(d,v) :: s.env}
 | none=>s
def AV.val:AV→Option (Bool×Value)
 | .ext v=>some (true,v)
 | .gd g v=>some (g,v)
 | _=>none
def AV.ptr? : AV→Option (Bool×Nat×Nat)
 | .own k off=>some (true,k,off)
 | .gown g k off=>some (g,k,off)
 | _=>none
def ev(s:St):Operand→AV
 | .tmp t=>lk s.env t
 | .const v=>.ext v
 | .global g=>.ext (.pointer (some ⟨g,0,none⟩))
 | .func f=>.fn f []
structure NewD where
 ob:Prop
 T:TypeId
 sl:Option (Nat×Nat)
def NewD.av(D:NewD)(k:Nat):AV:=
 match D.sl with
 | none=>.own k 0
 | some (n,z)=>.slo k 0 n z
inductive GenOp where
 | app (ts:List TypeId) (args:List AV)
inductive Res where
 | bad
 | put (ob:Prop) (v:AV)
 | sto (ob:Prop) (k:Nat) (cs:List AV)
 | new (D:NewD) (cs:List AV)
 | call (f:FuncId) (args:List AV)
 | gen (G:GenOp)
 | ask
def kindT(P:Program)(T:TypeId):Option Bool:=
 match P.underlying T with
 | some (.struct _)=>some true
 | some (.array _ _)=>some true
 | some _=>some false
 | none=>none
def szO(P:Program)(T:TypeId):Option Nat:=(P.info? T).map (·.size)
def byO(P:Program)(T:TypeId):Option Nat:=(P.info? T).map (·.bytes)
def fOff(P:Program)(T f:Nat):Option (Nat×TypeId):=
 match P.underlying T with
 | some (.struct fs)=>(fs[f]?).map fun x=>(x.offset,x.type)
 | _=>none
def zeroC(P:Program)(T:TypeId):Option (List Value):=((P.info? T).bind (·.zero)).map fun v=>v.cells.toList
def slcT(P:Program)(T:TypeId):Option TypeId:=
 match P.underlying T with
 | some (.slice e)=>some e
 | _=>none
def arrT(P:Program)(T:TypeId):Option (Nat×TypeId):=
 match P.underlying T with
 | some (.array n e)=>some (n,e)
 | _=>none
def intT(P:Program)(T:TypeId):Option IntKind:=
 match P.underlying T with
 | some (.int k)=>some k
 | _=>none
def isBoolT(P:Program)(T:TypeId):Bool:=match P.underlying T with|some .bool=>true|_=>false
def isSliceT(P:Program)(T:TypeId):Bool:=match P.underlying T with|some (.slice _)=>true|_=>false
def isStrT(P:Program)(T:TypeId):Bool:=match P.underlying T with|some .string=>true|_=>false
def isSl:Value→Bool
 | .slice _ _ _=>true
 | _=>false
def slen:Value→Nat
 | .slice _ n _=>n
 | _=>0
def scap:Value→Nat
 | .slice _ _ c=>c
 | _=>0
def nilS:Value→Bool
 | .slice a _ _=>a.isNone
 | _=>false
def elemP(v:Value)(z i:Nat):Value:=
 match v with
 | .slice (some a) _ _=>.pointer (some (a.add (i*z)))
 | _=>undef
def subS(v:Value)(z l h:Nat):Value:=
 match v with
 | .slice a _ c=>.slice (if c=l then a else a.map (·.add (l*z))) (h-l) (c-l)
 | _=>undef
def cellM(M:Mem)(b i:Nat):Option Value:=
 match M b with
 | some (.cells arr _ _)=>arr[i]?
 | _=>none
def rowM(M:Mem)(b i:Nat):Nat→Option (List Value)
 | 0=>some []
 | n+1=>match cellM M b i,rowM M b (i+1) n with
  | some v,some r=>some (v :: r)
  | _,_=>none
def rowS(M:Mem)(z:Nat):Value→Option (List Value)
 | .slice none 0 _=>some []
 | .slice (some ⟨b,off,none⟩) n _=>rowM M b off (n*z)
 | .slice (some ⟨_,_,some _⟩) 0 _=>some []
 | _=>none
def lookM(P:Program)(T:TypeId)(M:Mem):Value→Option Value
 | .pointer (some ⟨b,off,none⟩)=>match kindT P T,szO P T with
  | some true,some n=>(rowM M b off n).map fun l=>.agg l.toArray
  | some false,some _=>cellM M b off
  | _,_=>none
 | _=>none
def intV(b:BinOp)(k:IntKind)(x y:Int):Option (Prop×Value):=
 match b with
 | .add=>some (True,.int k (k.wrap (x+y)))
 | .sub=>some (True,.int k (k.wrap (x-y)))
 | .mul=>some (True,.int k (k.wrap (x*y)))
 | .quo=>some (y≠0,.int k (k.wrap (x.tdiv y)))
 | .rem=>some (y≠0,.int k (x.tmod y))
 | .and=>some (True,.int k (bits .and k x y))
 | .or=>some (True,.int k (bits .or k x y))
 | .xor=>some (True,.int k (bits .xor k x y))
 | .andNot=>some (True,.int k (bits .andNot k x y))
 | .eql=>some (True,.bool (decide (x=y)))
 | .neq=>some (True,.bool (!decide (x=y)))
 | .lss=>some (True,.bool (decide (x<y)))
 | .leq=>some (True,.bool (decide (x≤y)))
 | .gtr=>some (True,.bool (decide (y<x)))
 | .geq=>some (True,.bool (decide (y≤x)))
 | .shl=>some (0≤y,.int k (k.wrap (x*2^(min y.toNat k.bits))))
 | .shr=>some (0≤y,.int k (x.fdiv (2^(min y.toNat k.bits))))
def strV(b:BinOp)(x y:ByteArray):Option (Prop×Value):=
 match b with
 | .add=>some (((x.size+y.size:Nat):Int)≤9223372036854775807,.string (x++y))
 | .eql=>some (True,.bool (x.toList==y.toList))
 | .neq=>some (True,.bool (!(x.toList==y.toList)))
 | .lss=>some (True,.bool (Op.bytesLess x.toList y.toList))
 | .geq=>some (True,.bool (!(Op.bytesLess x.toList y.toList)))
 | .gtr=>some (True,.bool (Op.bytesLess y.toList x.toList))
 | .leq=>some (True,.bool (!(Op.bytesLess y.toList x.toList)))
 | _=>none
def boolV(b:BinOp)(x y:Bool):Option (Prop×Value):=
 match b with
 | .eql=>some (True,.bool (x==y))
 | .neq=>some (True,.bool (!(x==y)))
 | _=>none
def nilV(b:BinOp)(u:Value):Option (Prop×Value):=
 match b with
 | .eql=>some (isSl u=true,.bool (nilS u))
 | .neq=>some (isSl u=true,.bool (!(nilS u)))
 | _=>none
def flatK(P:Program)(T:TypeId):Option (List (Nat×Nat)):=
 match P.underlying T with
 | some (.struct fs)=>match P.stoodInHeld T,P.eqGuardType P.depth T with
  | false,false=>fs.toList.mapM fun f=>if f.name = "_" then none else match P.underlying f.type with
   | some (.int _)=>some (f.offset,0)
   | some .bool=>some (f.offset,1)
   | some .string=>some (f.offset,2)
   | _=>none
  | _,_=>none
 | _=>none
def eqC:Nat→Value→Value→Option Bool
 | 0,.int k a,.int k' b=>if k=k' then some (decide (a=b)) else none
 | 1,.bool a,.bool b=>some (a==b)
 | 2,.string a,.string b=>some (a.toList==b.toList)
 | _,_,_=>none
def eqL:List (Nat×Nat)→List Value→List Value→Option Bool
 | [],_,_=>some true
 | (o,k) :: r,xs,ys=>match xs[o]?,ys[o]? with
  | some a,some b=>match eqC k a b,eqL r xs ys with
   | some x,some y=>some (x&&y)
   | _,_=>none
  | _,_=>none
def eqV(P:Program)(b:BinOp)(T:TypeId)(xs ys:List Value):Option (Prop×Value):=
 match (flatK P T).bind fun l=>eqL l xs ys with
 | some t=>match b with
  | .eql=>some (True,.bool t)
  | .neq=>some (True,.bool (!t))
  | _=>none
 | none=>none
def binV(P:Program)(b:BinOp)(T:TypeId)(u:Value):Value→Option (Prop×Value)
 | .int k' y=>match u with
  | .int k x=>if k=k' then intV b k x y else match b with | .shl=>intV .shl k x y | .shr=>intV .shr k x y|_=>none
  | _=>none
 | .string y=>match u with
  | .string x=>strV b x y
  | _=>none
 | .bool y=>match u with
  | .bool x=>if isBoolT P T then boolV b x y else none
  | _=>none
 | .slice none _ _=>if isSliceT P T then nilV b u else none
 | .agg ys=>match u with
  | .agg xs=>eqV P b T xs.toList ys.toList
  | _=>none
 | _=>none
def unV:UnOp→Value→Option Value
 | .not,.bool b=>some (.bool (!b))
 | .neg,.int k n=>some (.int k (k.wrap (0-n)))
 | _,_=>none
def selV(t:Bool):Value→Value→Value
 | .bool x,.bool y=>.bool (cond t x y)
 | u,v=>if t then u else v
theorem selV_true(u v:Value):selV true u v=u:=by unfold selV;split<;>rfl
theorem selV_false(u v:Value):selV false u v=v:=by unfold selV;split<;>rfl
def put1(a:Option (Bool×Value))(f:Value→Option (Prop×Value)):Res:=
 match a with
 | some (g,u)=>match f u with
  | some (ob,v)=>.put (g=true∧ob) (.ext v)
  | none=>.bad
 | none=>.bad
def putA(a:Option (Bool×Value))(f:Value→Option (Prop×Value)):Res:=
 match a with
 | some (g,u)=>match f u with
  | some (ob,v)=>.put (g=true∧ob) (.ext v)
  | none=>.ask
 | none=>.ask
def put2(a b:Option (Bool×Value))(f:Value→Value→Option (Prop×Value)):Res:=
 match a,b with
 | some (g,u),some (h,w)=>match f u w with
  | some (ob,v)=>.put (g=true∧h=true∧ob) (.ext v)
  | none=>.bad
 | _,_=>.bad
def pickV(c a b:Option (Bool×Value)):Res:=
 match c,a,b with
 | some (g,.bool t),some (ga,u),some (gb,v)=>.put (g=true∧(t=true→ga=true)∧(t=false→gb=true)) (.ext (selV t u v))
 | _,_,_=>.bad
def vals:List AV→Option (List Value)
 | []=>some []
 | .ext v :: r=>(vals r).map (v :: ·)
 | _ :: _=>none
def aggA(l:List AV):AV:=
 match vals l with
 | some vs=>.ext (.agg vs.toArray)
 | none=>.ag false l
def tupA(l:List AV):AV:=
 match vals l with
 | some vs=>.ext (.tuple vs.toArray)
 | none=>.ag true l
def loadR(P:Program)(T:TypeId)(cs:List AV)(off:Nat):Res:=
 match kindT P T,szO P T with
 | some true,some n=>.put (off+n≤cs.length) (aggA ((cs.drop off).take n))
 | some false,some _=>match cs[off]? with
  | some v=>.put True v
  | none=>.bad
 | _,_=>.bad
def oneC:AV→Prop
 | .ext v=>v.oneCell'=true
 | .own _ _=>True
 | .fn _ _=>True
 | .bm _ _=>True
 | .slo _ _ _ _=>True
 | _=>False
def allOne:List AV→Prop
 | []=>True
 | v :: r=>oneC v∧allOne r
def cellsA:AV→Option (List AV)
 | .ext v=>some (v.cells.toList.map .ext)
 | .own k off=>some [.own k off]
 | .fn f c=>some [.fn f c]
 | .bm f c=>some [.bm f c]
 | .slo k off n z=>some [.slo k off n z]
 | .ag false l=>some l
 | _=>none
def cellsG:AV→Option (List AV)
 | .ext (.agg vs)=>some (vs.toList.map .ext)
 | .ag false l=>some l
 | _=>none
def storeR(P:Program)(T:TypeId)(k:Nat)(cs:List AV)(off:Nat)(v:AV):Res:=
 match kindT P T,szO P T with
 | some true,some n=>match cellsG v with
  | some l=>.sto (off+n≤cs.length∧l.length=n∧allOne l) k (cs.take off++(l++cs.drop (off+n)))
  | none=>.bad
 | some false,some n=>.sto (off<cs.length∧n=1∧oneC v) k (cs.set off v)
 | _,_=>.bad
def unV1(u:UnOp)(v:Value):Option (Prop×Value):=
 match unV u v with
 | some w=>some (True,w)
 | none=>some (False,undef)
def binW(P:Program)(b:BinOp)(T:TypeId)(u w:Value):Option (Prop×Value):=
 match binV P b T u w with
 | some r=>some r
 | none=>some (False,match b with
  | .eql | .neq | .lss | .leq | .gtr | .geq=>.bool false
  | _=>undef)
def mkF(fn:Fn)(first:List AV)(cs:List AV):Res:=
 match fn,first with
 | .func f,[]=>.put True (.fn f cs)
 | .func f,x :: r=>match cs with
  | []=>.put True (.bm f (x :: r))
  | _=>.bad
 | _,_=>.bad
inductive Cl where
 | val (v:AV)
 | blt (b:Builtin)
 | inv
def evC(s:St):Callee→Cl
 | .value g=>.val (ev s g)
 | .builtin b=>.blt b
 | .invoke _ _=>.inv
def normG(v:Value):Bool→AV
 | true=>.ext v
 | false=>.gd false v
def normP(k off:Nat):Bool→AV
 | true=>.own k off
 | false=>.gown false k off
def normA:AV→AV
 | .gd g v=>normG v g
 | .gown g k off=>normP k off g
 | v=>v
def normL:List AV→List AV
 | []=>[]
 | v :: r=>normA v :: normL r
def lenV(P:Program)(T:TypeId)(v:Value):Option (Prop×Value):=
 match isSliceT P T,isStrT P T with
 | true,_=>some (isSl v=true,.int .i64 (slen v))
 | false,true=>match v with
  | .string t=>some (True,.int .i64 t.size)
  | _=>none
 | _,_=>none
def minV(x y:Value):Option (Prop×Value):=
 match x,y with
 | .int k a,.int k' b=>if k=k' then some (True,.int k (if b<a then b else a)) else none
 | _,_=>none
def maxV(x y:Value):Option (Prop×Value):=
 match x,y with
 | .int k a,.int k' b=>if k=k' then some (True,.int k (if b > a then b else a)) else none
 | _,_=>none
def lenR(P:Program)(ts:List TypeId)(args:List AV):Res:=
 match ts,args with
 | [T],[.slo _ _ n _]=>.put (isSliceT P T=true) (.ext (.int .i64 n))
 | [T],[x]=>match isSliceT P T,isStrT P T with
  | false,false=>.ask
  | _,_=>put1 x.val (lenV P T)
 | _,_=>.bad
def srcA(P:Program)(s:St)(z:Nat)(t:TypeId):AV→Option (Prop×Nat×List AV)
 | .slo k off n z'=>match lkH s.hp k with
  | some (_,cs)=>some (isSliceT P t=true∧z'=z∧off+n*z≤cs.length,n,(cs.drop off).take (n*z))
  | none=>none
 | .ext v=>match isStrT P t with
  | true=>match v with
   | .string x=>some (z=1,x.size,(x.data.toList.map fun b=>.ext (.int .u8 b.toNat)))
   | _=>none
  | false=>match rowS s.M z v with
   | some l=>some (isSliceT P t=true,slen v,l.map .ext)
   | none=>none
 | _=>none
mutual
def AV.kill(k:Nat):AV→AV
 | .own j off=>if j=k then .unk else .own j off
 | .gown g j off=>if j=k then .unk else .gown g j off
 | .slo j off n z=>if j=k then .unk else .slo j off n z
 | .fn f l=>.fn f (killL k l)
 | .bm f l=>.bm f (killL k l)
 | .ag t l=>.ag t (killL k l)
 | .ext v=>.ext v
 | .gd g v=>.gd g v
 | .unk=>.unk
def killL(k:Nat):List AV→List AV
 | []=>[]
 | v :: r=>v.kill k :: killL k r
end
def killE(k:Nat):Env→Env
 | []=>[]
 | (t,v) :: r=>(t,v.kill k) :: killE k r
def killH(k:Nat):Hp→Hp
 | []=>[]
 | (j,T,cs) :: r=>if j=k then killH k r else (j,T,killL k cs) :: killH k r
structure AwayS (k:Nat) (s:St):Prop where
 env:∀t,k∉(lk s.env t).ment
 hp:∀j T cs,lkH s.hp j=some (T,cs)→j≠k∧k∉mentL cs
 fx:k∉s.fx
def awayB(k:Nat)(s:St):Bool:=!(hasK k (mentE s.env))&&(!(hasK k (mentH s.hp))&&!(hasK k s.fx))
def awayP(k:Nat)(s:St):Prop:=awayB k s=true∨AwayS k s
def brv(t:Bool)(A B:Prop):Prop:=(t=true→A)∧(t=false→B)
def obl(ob A:Prop):Prop:=ob∧A
def cutB(kb:Nat):Bool:=decide (1000000≤kb)
def cutC:Bool→Nat→List AV→List AV
 | true,n,cs=>cs.take n
 | false,_,cs=>cs
def cutP:Bool→Nat→List AV→Prop
 | true,n,cs=>n≤cs.length
 | false,n,cs=>cs.length=n
theorem cut_take{b:Bool}{n:Nat}{cs:List AV}(h:cutP b n cs):cutC b n cs=cs.take n∧n≤cs.length:=by
 cases b with
 | true=>exact ⟨rfl,h⟩
 | false=>exact ⟨(List.take_of_length_le (Nat.le_of_eq h)).symm,Nat.le_of_eq h.symm⟩
def appR(P:Program)(s:St)(ts:List TypeId)(args:List AV)(d:Option Nat)(K:St→Prop):Prop:=
 match ts,args with
 | [t,t'],[x,y]=>match slcT P t with
  | some e=>match szO P e,byO P e,zeroC P e with
   | some z,some by_,some zs=>match srcA P s z t' y,d with
    | some (ob,m,new),some d=>match x with
     | .slo k 0 n z'=>match lkH s.hp k with
      | some (T,cs)=>obl (T=e∧hasK k s.fx=false∧z'=z∧cutP (cutB s.kb) (n*z) cs∧0<z∧ob∧allOne new∧hasK k (mentL new)=false∧(n+m)*by_≤140737488355328∧n+m≤maxLen∧hasK k (mentL cs)=false∧zs.length=z)
       (K {env:=(d,.slo k 0 (n+m) z) :: killE k s.env,hp:=(k,e,cutC (cutB s.kb) (n*z) cs++new) :: killH k s.hp,M:=s.M,kb:=s.kb,fx:=s.fx,fr:=s.fr})
      | none=>False
     | .ext (.slice none 0 0)=>obl (0<z∧ob∧allOne new∧m*by_≤140737488355328∧m≤maxLen∧awayP (s.kb+d) s∧hasK (s.kb+d) (mentL new)=false∧zs.length=z)
       (K {env:=(d,.slo (s.kb+d) 0 m z) :: s.env,hp:=(s.kb+d,e,new) :: s.hp,M:=s.M,kb:=s.kb,fx:=s.fx,fr:=s.fr})
     | _=>False
    | _,_=>False
   | _,_,_=>False
  | none=>False
 | _,_=>False
def genR(P:Program)(s:St)(d:Option Nat)(K:St→Prop):GenOp→Prop
 | .app ts args=>appR P s ts args d K
def bltR(P:Program)(b:Builtin)(ts:List TypeId)(args:List AV):Res:=
 match b with
 | .len=>lenR P ts args
 | .min=>match args with
  | [x,y]=>put2 x.val y.val minV
  | _=>.ask
 | .max=>match args with
  | [x,y]=>put2 x.val y.val maxV
  | _=>.ask
 | .append=>.gen (.app ts (normL args))
 | _=>.ask
def callR(P:Program)(cl:Cl)(ts:List TypeId)(args:List AV):Res:=
 match cl with
 | .val (.fn f cs)=>.call f (args++cs)
 | .val (.bm f cs)=>.call f (cs++args)
 | .val (.ext (.tuple _))=>.put False (.ext undef)
 | .blt b=>bltR P b ts args
 | _=>.ask
def nilR:Option (Bool×Nat×Nat)→Res
 | some (g,k,off)=>.put (g=true) (.own k off)
 | none=>.bad
def fieldR(P:Program)(f:Option (Nat×TypeId))(a:Option (Bool×Nat×Nat)):Res:=
 match f,a with
 | some (o,T),some (g,k,off)=>.put (g=true∧(szO P T).map (·==0)=some false) (.own k (off+o))
 | _,_=>.bad
def isPt:Value→Bool
 | .pointer (some _)=>true
 | _=>false
def addP(v:Value)(k:Nat):Value:=
 match v with
 | .pointer (some a)=>.pointer (some (a.add k))
 | _=>undef
def fldV(P:Program)(fo:Option (Nat×TypeId))(g:Bool)(v:Value):Res:=
 match fo with
 | some (o,T)=>.put (g=true∧isPt v=true∧(szO P T).map (·==0)=some false) (.ext (addP v o))
 | none=>.bad
def nilA:AV→Res
 | .ext v=>.put (isPt v=true) (.ext v)
 | .gd g v=>.put (g=true∧isPt v=true) (.ext v)
 | .own k off=>.put (true=true) (.own k off)
 | .gown g k off=>.put (g=true) (.own k off)
 | _=>.bad
def fldA(P:Program)(fo:Option (Nat×TypeId)):AV→Res
 | .ext v=>fldV P fo true v
 | .gd g v=>fldV P fo g v
 | v=>fieldR P fo v.ptr?
def zeroR(P:Program)(T:TypeId):Res:=
 match kindT P T,zeroC P T with
 | some false,some [v]=>.put False (.ext v)
 | some true,some cs=>.put False (.ext (.agg cs.toArray))
 | _,_=>.bad
def addOb(g:Bool):Res→Res
 | .put ob v=>.put (g=true∧ob) v
 | .sto ob k cs=>.sto (g=true∧ob) k cs
 | _=>.bad
def loadH(P:Program)(T:TypeId)(g:Bool)(off:Nat):Option (TypeId×List AV)→Res
 | some (_,cs)=>addOb g (loadR P T cs off)
 | none=>.bad
def storeH(P:Program)(T:TypeId)(v:AV)(g:Bool)(k off:Nat):Option (TypeId×List AV)→Res
 | some (_,cs)=>addOb g (storeR P T k cs off v)
 | none=>.bad
def loadV(P:Program)(s:St)(T:TypeId)(u:Value):Option (Prop×Value):=(lookM P T s.M u).map fun v=>(True,v)
def loadX(P:Program)(s:St)(T:TypeId):AV→Res
 | .own k off=>loadH P T true off (lkH s.hp k)
 | .gown g k off=>loadH P T g off (lkH s.hp k)
 | .ext u=>put1 (some (true,u)) (loadV P s T)
 | .gd true u=>put1 (some (true,u)) (loadV P s T)
 | .gd false _=>zeroR P T
 | _=>.bad
def storeX(P:Program)(s:St)(T:TypeId)(v:AV):Option (Bool×Nat×Nat)→Res
 | some (g,k,off)=>storeH P T v g k off (lkH s.hp k)
 | none=>.ask
def callsB(P:Program)(f:FuncId):Bool:=
 match P.funcs[f]? with
 | some fn=>!(fn.name == "runtime.NumGoroutine")&&fn.body.isSome
 | none=>false
def placesT(P:Program)(T:TypeId):Option (List (Nat×Nat×Bool)):=
 match P.underlying T with
 | some (.struct fs)=>fs.toList.mapM fun f=>match P.info? f.type,kindT P f.type with
  | some i,some k=>some (f.offset,i.size,k)
  | _,_=>none
 | _=>none
def unG:AV→Option (Bool×AV)
 | .gd g v=>some (g,.ext v)
 | .gown g k off=>some (g,.own k off)
 | .unk=>none
 | v=>some (true,v)
def partC(n:Nat)(k:Bool)(v:AV):Option (Prop×List AV):=
 match k with
 | true=>match cellsG v with
  | some l=>some (l.length=n,l)
  | none=>none
 | false=>some (oneC v∧n=1,[v])
def buildL(pl:List (Nat×Nat×Bool)):List AV→List (Nat×AV)→Option (Prop×List AV)
 | cells,[]=>some (True,cells)
 | cells,(i,x) :: r=>match pl[i]?,unG x with
  | some (off,n,k),some (g,v)=>match partC n k v with
   | some (ob,vs)=>match buildL pl (cells.take off++(vs++cells.drop (off+n))) r with
    | some (ob',out)=>some (g=true∧ob∧off+n≤cells.length∧ob',out)
    | none=>none
   | none=>none
  | _,_=>none
def plN(sz:Nat)(k:Bool):Nat→Nat→List (Nat×Nat×Bool)
 | 0,_=>[]
 | n+1,off=>(off,sz,k) :: plN sz k n (off+sz)
def plT(P:Program)(T:TypeId):Option (List (Nat×Nat×Bool)):=
 match arrT P T with
 | some (n,e)=>match szO P e,kindT P e with
  | some sz,some k=>some (plN sz k n 0)
  | _,_=>none
 | none=>placesT P T
def buildR(P:Program)(T:TypeId)(parts:List (Nat×AV)):Res:=
 match plT P T,zeroC P T with
 | some pl,some cs=>match buildL pl (cs.map .ext) parts with
  | some (ob,out)=>.put ob (aggA out)
  | none=>.bad
 | _,_=>.bad
def repN(z:List Value):Nat→List Value
 | 0=>[]
 | n+1=>z++repN z n
def buildSR(P:Program)(T:TypeId)(n:Nat)(parts:List (Nat×AV)):Res:=
 match slcT P T with
 | some e=>match szO P e,kindT P e,zeroC P e with
  | some sz,some k,some z=>match buildL (plN sz k n 0) ((repN z n).map .ext) parts with
   | some (ob,out)=>.new ⟨ob∧(0<n*sz∨n=0)∧n*sz≤16777216∧z.length=sz,e,some (n,sz)⟩ out
   | none=>.bad
  | _,_,_=>.bad
 | none=>.bad
def makeR(P:Program)(T:TypeId)(a b:Option (Bool×Value)):Res:=
 match slcT P T,a,b with
 | some e,some (g,.int _ n),some (h,.int _ c)=>match szO P e,byO P e,zeroC P e with
  | some z,some by_,some zs=>.new ⟨g=true∧h=true∧0≤n∧n≤c∧0<z∧zs.length=z∧by_*c≤140737488355328∧c≤140737488355328,e,some (n.toNat,z)⟩ ((repN zs c.toNat).map .ext)
  | _,_,_=>.bad
 | _,_,_=>.bad
def fieldX(P:Program)(S f:Nat)(v:AV):Res:=
 match cellsG v,fOff P S f with
 | some l,some (off,T)=>match kindT P T,szO P T with
  | some true,some n=>.put (off+n≤l.length) (aggA ((l.drop off).take n))
  | some false,some _=>match l[off]? with
   | some v=>.put True v
   | none=>.bad
  | _,_=>.bad
 | _,_=>.bad
def fieldO(P:Program)(S f:Nat):Option (Bool×AV)→Res
 | some (g,v)=>addOb g (fieldX P S f v)
 | none=>.bad
def extR(i:Nat):Option (Bool×AV)→Res
 | some (g,.ext (.tuple vs))=>match vs[i]? with
  | some v=>.put (g=true) (.ext v)
  | none=>.bad
 | some (g,.ag true l)=>match l[i]? with
  | some v=>.put (g=true) v
  | none=>.bad
 | _=>.bad
def idxA(P:Program)(T:TypeId)(x:AV)(i:Int):Res:=
 match slcT P T with
 | some e=>match szO P e with
  | some z=>match x with
   | .slo k off n z'=>.put (z'=z∧0≤i∧i<n) (.own k (off+i.toNat*z))
   | .ext v=>.put (isSl v=true∧nilS v=false∧0≤i∧i<slen v) (.ext (elemP v z i.toNat))
   | .gd g v=>.put (g=true∧isSl v=true∧nilS v=false∧0≤i∧i<slen v) (.ext (elemP v z i.toNat))
   | _=>.bad
  | none=>.bad
 | none=>match arrT P T with
  | some (n,e)=>match szO P e,x with
   | some z,.own k off=>.put (0≤i∧i<n) (.own k (off+i.toNat*z))
   | _,_=>.bad
  | none=>.bad
def idxR(P:Program)(T:TypeId)(x:AV)(i:Option (Bool×Value)):Res:=
 match i with
 | some (g,.int _ i)=>addOb g (idxA P T x i)
 | _=>.bad
def byteAt(s:ByteArray)(i:Nat):Int:=((s.data.toList.getD i 0).toNat:Int)
def indV(P:Program)(T:TypeId)(x:Value)(i:Value):Option (Prop×Value):=
 match i with
 | .int _ i=>match isStrT P T,x with
  | true,.string s=>some (0≤i∧i<s.size,.int .u8 (byteAt s i.toNat))
  | false,.agg cs=>match arrT P T with
   | some (n,e)=>match kindT P e,szO P e with
    | some false,some z=>match cs[i.toNat*z]? with
     | some v=>some (0≤i∧i<n,v)
     | none=>none
    | _,_=>none
   | none=>none
  | _,_=>none
 | _=>none
def bndO(s:St)(dflt:Int):Option Operand→Option (Prop×Int)
 | none=>some (True,dflt)
 | some x=>match (ev s x).val with
  | some (g,.int _ i)=>some (g=true,i)
  | _=>none
def slcR(P:Program)(s:St)(T:TypeId)(x:AV)(lo hi:Option Operand):Res:=
 match slcT P T,x with
 | some e,.slo k off n z'=>match szO P e,bndO s 0 lo,bndO s n hi with
  | some z,some (o1,l),some (o2,h)=>.put (z'=z∧o1∧o2∧0≤l∧l≤h∧h≤n) (.slo k (off+l.toNat*z) (h.toNat-l.toNat) z)
  | _,_,_=>.bad
 | some e,.ext v=>match szO P e,bndO s 0 lo,bndO s (slen v) hi with
  | some z,some (o1,l),some (o2,h)=>.put (isSl v=true∧o1∧o2∧0≤l∧l≤h∧h≤scap v) (.ext (subS v z l.toNat h.toNat))
  | _,_,_=>.bad
 | none,.ext (.string x)=>match bndO s 0 lo,bndO s x.size hi with
  | some (o1,l),some (o2,h)=>.put (isStrT P T=true∧o1∧o2∧0≤l∧l≤h∧h≤x.size) (.ext (.string (x.extract l.toNat h.toNat)))
  | _,_=>.bad
 | _,_=>.bad
def slcO(P:Program)(s:St)(T:TypeId)(k off:Nat)(lo hi:Option Operand):Option (TypeId×List AV)→Res
 | some (_,cs)=>match arrT P T with
  | some (n,e)=>match szO P e,bndO s 0 lo,bndO s n hi with
   | some z,some (o1,l),some (o2,h)=>.put (o1∧o2∧0≤l∧l≤h∧h≤n∧off+n*z≤cs.length) (.slo k (off+l.toNat*z) (h.toNat-l.toNat) z)
   | _,_,_=>.bad
  | none=>.bad
 | none=>.bad
def slcG(P:Program)(s:St)(T:TypeId)(x:AV)(lo hi:Option Operand):Res:=
 match x with
 | .gd g v=>addOb g (slcR P s T (.ext v) lo hi)
 | .own k off=>slcO P s T k off lo hi (lkH s.hp k)
 | v=>slcR P s T v lo hi
theorem slcG_own(P:Program)(s:St)(T:TypeId)(k off:Nat)(lo hi:Option Operand):slcG P s T (.own k off) lo hi=slcO P s T k off lo hi (lkH s.hp k):=rfl
theorem slcG_gd(P:Program)(s:St)(T:TypeId)(g:Bool)(v:Value)(lo hi:Option Operand):slcG P s T (.gd g v) lo hi=addOb g (slcR P s T (.ext v) lo hi):=rfl
theorem slcG_ext(P:Program)(s:St)(T:TypeId)(v:Value)(lo hi:Option Operand):slcG P s T (.ext v) lo hi=slcR P s T (.ext v) lo hi:=rfl
theorem slcG_slo(P:Program)(s:St)(T:TypeId)(k off n z:Nat)(lo hi:Option Operand):slcG P s T (.slo k off n z) lo hi=slcR P s T (.slo k off n z) lo hi:=rfl
def conV(P:Program)(S T:TypeId)(u:Value):Option (Prop×Value):=
 match intT P T with
 | some k=>match intT P S,u with
  | some _,.int _ n=>some (True,.int k (k.wrap n))
  | _,_=>none
 | none=>match isStrT P T,isStrT P S,u with
  | true,true,.string x=>some (True,.string x)
  | true,false,.int _ n=>if (intT P S).isSome=true then some (True,.string (Utf8.encode n)) else none
  | _,_,_=>none
def bytesA:List AV→Option (Prop×List UInt8)
 | []=>some (True,[])
 | .ext (.int .u8 n) :: r=>match bytesA r with
  | some (ob,l)=>some (0≤n∧n<256∧ob,UInt8.ofNat n.toNat :: l)
  | none=>none
 | _ :: _=>none
def strH(P:Program)(S T:TypeId)(off n z:Nat):Option (TypeId×List AV)→Res
 | some (_,cs)=>match bytesA ((cs.drop off).take n),slcT P S with
  | some (ob,l),some E=>match intT P E with
   | some .u8=>.put (z=1∧off+n≤cs.length∧isStrT P T=true∧ob) (.ext (.string ⟨l.toArray⟩))
   | _=>.ask
  | _,_=>.ask
 | none=>.ask
def convX(P:Program)(s:St)(S T:TypeId):AV→Res
 | .slo k off n z=>strH P S T off n z (lkH s.hp k)
 | v=>putA v.val (conV P S T)
def boxR(T:TypeId)(v:AV):Res:=
 match cellsA v with
 | some l=>.new ⟨True,T,none⟩ l
 | none=>.bad
def intKey:Value→Option Int
 | .int .i64 n=>if (Lit.int .i64 n).wf=true then some n else none
 | _=>none
def trueV:Value→Bool
 | .bool true=>true
 | _=>false
def mapO:Obj→Value→Option Value
 | .map es _,key=>match intKey key with
  | some n=>if es.toList.all (fun e=>(intKey e.key).isSome&&trueV e.val)=true then some (.bool (es.toList.any fun e=>intKey e.key==some n)) else none
  | none=>none
 | _,_=>none
def mapM(M:Mem)(b:Nat)(key:Value):Option Value:=
 match M b with
 | some o=>mapO o key
 | none=>none
def intBool(P:Program)(T:TypeId):Bool:=
 match P.underlying T with
 | some (.map kt et)=>match P.underlying kt,P.info? et with
  | some (.int .i64),some i=>match i.zero with
   | some (.bool false)=>true
   | _=>false
  | _,_=>false
 | _=>false
def lkuR(P:Program)(s:St)(T:TypeId)(a b:Option (Bool×Value)):Res:=
 match a,b with
 | some (g,.map (some k)),some (g',key)=>match intBool P T with
  | true=>match mapM s.M k key with
   | some v=>.put (g=true∧g'=true) (.ext v)
   | none=>.bad
  | false=>.ask
 | _,_=>.ask
def tOp(P:Program)(s:St):Op→Res
 | .move x | .assign x=>.put True (ev s x)
 | .pick c a b=>pickV (ev s c).val (ev s a).val (ev s b).val
 | .binOp b T x y _=>put2 (ev s x).val (ev s y).val (binW P b T)
 | .unOp u _ x=>put1 (ev s x).val (unV1 u)
 | .extract x i=>extR i (unG (ev s x))
 | .nilCheck x=>nilA (ev s x)
 | .fieldAddr S x f=>fldA P (fOff P S f) (ev s x)
 | .alloc T=>match zeroC P T with
   | some cs=>.new ⟨True,T,none⟩ (cs.map .ext)
   | none=>.bad
 | .box T x=>boxR T (ev s x)
 | .load T x=>loadX P s T (ev s x)
 | .store T x y=>storeX P s T (ev s y) (ev s x).ptr?
 | .makeFunc fn first cs=>mkF fn (first.toList.map (ev s)) (cs.toList.map (ev s))
 | .call c=>callR P (evC s c.callee) c.argTypes.toList (c.args.toList.map (ev s))
 | .buildSlice T n ps=>buildSR P T n (ps.toList.map fun p=>(p.1,ev s p.2))
 | .build T ps=>buildR P T (ps.toList.map fun p=>(p.1,ev s p.2))
 | .field S x f=>fieldO P S f (unG (ev s x))
 | .makeSlice T n c=>makeR P T (ev s n).val (ev s c).val
 | .indexAddr T x i=>idxR P T (ev s x) (ev s i).val
 | .index T x i=>put2 (ev s x).val (ev s i).val (indV P T)
 | .slice T x lo hi none=>slcG P s T (ev s x) lo hi
 | .convert S T x=>convX P s S T (ev s x)
 | .lookup T m x false=>lkuR P s T (ev s m).val (ev s x).val
 | _=>.ask
def opAt:List Oper→Nat→Option Oper
 | [],_=>none
 | o :: _,0=>some o
 | _ :: r,n+1=>opAt r n
theorem opAt_eq:∀(l:List Oper) (j:Nat),opAt l j=l[j]?
 | [],_=>rfl
 | o :: _,0=>rfl
 | _ :: r,n+1=>by simp[opAt,opAt_eq r n]
theorem opAt_arr(l:List Oper)(j:Nat):opAt (l.toArray).toList j=opAt l j:=by simp
theorem opAt_0(o:Oper)(r:List Oper):opAt (o :: r) 0=some o:=rfl
theorem opAt_S(o:Oper)(r:List Oper)(n:Nat):opAt (o :: r) (n+1)=opAt r n:=rfl
def dstO:Option Oper→Option Nat
 | some o=>o.dst
 | none=>none
def gslot(ops:List Oper)(j:Nat):Option Nat:=dstO (opAt ops j)
theorem gslot_eq(ops:List Oper)(j:Nat):gslot ops j=(ops[j]?).bind (·.dst):=by
 unfold gslot
 rw[opAt_eq]
 cases ops[j]?<;>rfl
def guardB(ops:List Oper)(s:St):Option (Nat×Bool)→Option Bool
 | none=>some true
 | some (j,want)=>match gslot ops j with
  | some t=>match (lk s.env t).val with
   | some (gg,.bool b)=>some (gg&&(b==want))
   | some (false,_)=>some false
   | _=>none
  | none=>none
structure Cx where
 w0:World
 M0:Mem
 X:List Nat
 ρ0:Rho
 ks:Nat→Bool
def Mem.le(M M':Mem):Prop:=∀b o,M b=some o→M' b=some o
theorem Mem.le.refl(M:Mem):Mem.le M M:=fun _ _ h=>h
theorem Mem.le.trans{a b c:Mem}(h:Mem.le a b)(k:Mem.le b c):Mem.le a c:=fun x o hx=>k x o (h x o hx)
def Sub(M:Mem)(w:World):Prop:=∀b o,M b=some o→w.heap[b]? = some o
def ptr(b off:Nat):Value:=.pointer (some ⟨b,off,none⟩)
def isSlo(ρ:Rho)(k off len z:Nat)(u:Value):Prop:=
 (∃b cap,ρ k=some b∧u=.slice (some ⟨b.b,off,none⟩) len cap∧len≤cap∧off+cap*z≤b.n)∨(len=0∧∃a:Option Addr,(∀x,a=some x→x.spot=none)∧u=.slice a 0 0)
def aggV(t:Bool)(us:List Value):Value:=if t=true then .tuple us.toArray else .agg us.toArray
mutual
def AV.is(ρ:Rho):AV→Value→Prop
 | .ext v,u=>u=v
 | .gd g v,u=>u=if g=true then v else undef
 | .own k off,u=>∃b,ρ k=some b∧u=ptr b.b off
 | .gown g k off,u=>if g=true then ∃b,ρ k=some b∧u=ptr b.b off else u=undef
 | .slo k off len z,u=>isSlo ρ k off len z u
 | .fn f l,u=>∃us,isL ρ l us∧u=.func (.func f) #[] us.toArray
 | .bm f l,u=>∃us,isL ρ l us∧u=.func (.func f) us.toArray #[]
 | .ag t l,u=>∃us,isL ρ l us∧u=aggV t us
 | .unk,_=>True
def isL(ρ:Rho):List AV→List Value→Prop
 | [],us=>us=[]
 | v :: l,us=>∃u r,us=u :: r∧v.is ρ u∧isL ρ l r
end
structure Row (ρ:Rho) (w:World) (T:TypeId) (cs:List AV) (b:Blk) (arr:Array Value):Prop where
 there:w.heap[b.b]? = some (.cells arr T (0,0))
 size:arr.size=b.n
 le:cs.length≤b.n
 is:∀(i:Nat) (v:AV),cs[i]? = some v→v.is ρ (arr.getD i undef)
structure Gam (c:Cx) (n:Nat) (s:St) (ρ:Rho) (a:Act) (w:World):Prop where
 df:a.defers=[]
 sz:a.tmps.size=n
 env:∀t,(lk s.env t).is ρ (a.tmps.getD t undef)
 hp:∀k T cs b,lkH s.hp k=some (T,cs)→ρ k=some b→(∃arr,Row ρ w T cs b arr)∧(c.w0.heap.size≤b.b∨b.b∈c.X)∧s.M b.b=none
 no:∀k T cs,lkH s.hp k=some (T,cs)→ρ k=none→cs=[]
 inj:∀k k' b b',(lkH s.hp k).isSome=true→(lkH s.hp k').isSome=true→ρ k=some b→ρ k'=some b'→b.b=b'.b→k=k'
 os:w.os=c.w0.os
 tape:w.tape=c.w0.tape
 output:w.output=c.w0.output
 size:c.w0.heap.size≤w.heap.size
 block:∀i,i<c.w0.heap.size→i∉c.X→w.heap[i]? = c.w0.heap[i]?
 sub:Sub s.M w
 le:Mem.le c.M0 s.M
 mf:∀b,s.M b≠none→c.M0 b≠none∨c.w0.heap.size≤b
 fix:∀k,c.ks k=true→(lkH s.hp k).isSome=true
 fx:∀k,k∈s.fx→ρ k=c.ρ0 k
 kl:∀k,c.ks k=true→k<s.kb
 fr:∀b,b∈s.fr→c.w0.heap.size≤b∧c.M0 b=none
def Ga(c:Cx)(n:Nat)(s:St)(a:Act)(w:World):Prop:=∃ρ,Gam c n s ρ a w
def dOK(n:Nat):Option Nat→Prop
 | some d=>d<n
 | none=>True
def subH:Hp→List Nat→Hp
 | [],_=>[]
 | (k,x) :: r,ks=>if hasK k ks=true then (k,x) :: subH r ks else subH r ks
def mentO:Option (TypeId×List AV)→List Nat
 | some (_,cs)=>mentL cs
 | none=>[]
def cellsK(hp:Hp):List Nat→List Nat
 | []=>[]
 | k :: r=>mentO (lkH hp k)++cellsK hp r
def reachK(hp:Hp)(ks:List Nat):List Nat:=cellsK hp ks++ks
def dropH(G:Hp):Hp→Hp
 | []=>[]
 | (k,x) :: r=>if (lkH G k).isSome=true then dropH G r else (k,x) :: dropH G r
def joinH(hp H':Hp):Hp:=H'++dropH H' hp
structure HeapIs (ρ:Rho) (H:Hp) (M:Mem) (w:World):Prop where
 hp:∀k T cs b,lkH H k=some (T,cs)→ρ k=some b→(∃arr,Row ρ w T cs b arr)∧M b.b=none
 no:∀k T cs,lkH H k=some (T,cs)→ρ k=none→cs=[]
 inj:∀k k' b b',(lkH H k).isSome=true→(lkH H k').isSome=true→ρ k=some b→ρ k'=some b'→b.b=b'.b→k=k'
 sub:Sub M w
structure Left (mv:List Nat) (H:Hp) (M:Mem) (ρ ρ':Rho) (w:World) (u:Value) (v:AV) (H':Hp) (M':Mem) (w':World):Prop where
 is:v.is ρ' u
 heap:HeapIs ρ' H' M' w'
 keep:∀k,(lkH H k).isSome=true→(lkH H' k).isSome=true
 same:∀k,(lkH H k).isSome=true∨lkH H' k=none→k∉mv→ρ' k=ρ k
 ment:∀k,lkH H' k=none→k∉v.ment∧∀j T cs,lkH H' j=some (T,cs)→k∉mentL cs
 fresh:∀k b,(lkH H' k).isSome=true→ρ' k=some b→w.heap.size≤b.b∨∃j x,(lkH H j).isSome=true∧ρ j=some x∧x.b=b.b
 os:w'.os=w.os
 tape:w'.tape=w.tape
 output:w'.output=w.output
 size:w.heap.size≤w'.heap.size
 block:∀b,b<w.heap.size→(∀k x,(lkH H k).isSome=true→ρ k=some x→x.b≠b)→w'.heap[b]? = w.heap[b]?
 le:Mem.le M M'
 mem:∀b,M' b≠none→M b≠none∨w.heap.size≤b
def CallS(P:Program)(f:FuncId)(args:List AV)(H:Hp)(M:Mem)(mv:List Nat)(K:AV→Hp→Mem→Prop):Prop:=
 ∀ρ w us,HeapIs ρ H M w→isL ρ args us→
  Calls P f us.toArray w fun e w'=>∃u v H' M' ρ',e=.returned u∧K v H' M'∧Left mv H M ρ ρ' w u v H' M' w'
def newKeys(s:St)(H:Hp):Hp→Prop
 | []=>True
 | (k,_) :: r=>((lkH H k).isSome=true∨awayP k s)∧newKeys s H r
def killEs:List Nat→Env→Env
 | [],e=>e
 | k :: r,e=>killE k (killEs r e)
def killHs:List Nat→Hp→Hp
 | [],e=>e
 | k :: r,e=>killH k (killHs r e)
def CallK(P:Program)(f:FuncId)(args:List AV)(s:St)(d:Option Nat)(K:St→Prop):Prop:=
 ∃mv,(∀k∈mv,(lkH (subH s.hp (reachK s.hp (mentL args))) k).isSome=true∧k∉s.fx)∧CallS P f args (subH s.hp (reachK s.hp (mentL args))) s.M mv fun v H' M'=>
  newKeys s (subH s.hp (reachK s.hp (mentL args))) H'∧K ({env:=killEs mv s.env,hp:=joinH (killHs mv s.hp) H',M:=M',kb:=s.kb,fx:=s.fx,fr:=s.fr:St}.put d v)
def CallK0(P:Program)(f:FuncId)(args:List AV)(s:St)(d:Option Nat)(K:St→Prop):Prop:=
 CallS P f args (subH s.hp (reachK s.hp (mentL args))) s.M [] fun v H' M'=>
  newKeys s (subH s.hp (reachK s.hp (mentL args))) H'∧K ({env:=s.env,hp:=joinH s.hp H',M:=M',kb:=s.kb,fx:=s.fx,fr:=s.fr:St}.put d v)
def AskK(P:Program)(o:Oper)(s:St)(K:St→Prop):Prop:=
 ∀c n a w Q,Ga c n s a w→dOK n o.dst→o.wp P a w (fun a' w'=>∃s',K s'∧Ga c n s' a' w') Q
def newK(s:St)(d:Option Nat)(D:NewD)(cs:List AV)(K:St→Prop):Prop:=
 match d with
 | some d=>obl (D.ob∧awayP (s.kb+d) s) (K {env:=(d,D.av (s.kb+d)) :: s.env,hp:=(s.kb+d,D.T,cs) :: s.hp,M:=s.M,kb:=s.kb,fx:=s.fx,fr:=s.fr})
 | none=>False
def fin(P:Program)(o:Oper)(s:St)(K:St→Prop):Res→Prop
 | .bad=>False
 | .put ob v=>obl ob (K (s.put o.dst v))
 | .sto ob k cs=>obl ob (K ({s with hp:=upH s.hp k cs}.put o.dst .unk))
 | .new D cs=>newK s o.dst D cs K
 | .call f args=>obl (callsB P f=true) (CallK P f (normL args) s o.dst K)
 | .gen G=>genR P s o.dst K G
 | .ask=>AskK P o s K
def finG(P:Program)(o:Oper)(s:St)(K:St→Prop)(g:Bool):Res→Prop
 | .put ob (.ext v)=>obl (g=true→ob) (K (s.put o.dst (.gd g v)))
 | .put ob (.gd g' v)=>obl (g=true→g'=true∧ob) (K (s.put o.dst (.gd g v)))
 | .put ob (.own k off)=>obl (g=true→ob) (K (s.put o.dst (.gown g k off)))
 | r=>brv g (fin P o s K r) (K (s.put o.dst (.ext undef)))
def stepG(P:Program)(o:Oper)(s:St)(K:St→Prop):Option Bool→Prop
 | some g=>finG P o s K g (tOp P s o.op)
 | none=>False
def step1(P:Program)(ops:List Oper)(o:Oper)(s:St)(K:St→Prop):Option (Nat×Bool)→Prop
 | none=>fin P o s K (tOp P s o.op)
 | some g=>stepG P o s K (guardB ops s (some g))
def runOps(P:Program)(ops:List Oper):List Oper→(St→Prop)→St→Prop
 | [],K,s=>K s
 | o :: r,K,s=>step1 P ops o s (runOps P ops r K) o.guard
def finD(P:Program)(o:Oper)(s:St)(K:St→Prop):Res→Prop
 | .bad=>False
 | .put ob v=>obl ob (K (s.put o.dst v))
 | .sto ob k cs=>obl ob (K ({s with hp:=upH s.hp k cs}.put o.dst .unk))
 | .new D cs=>newK s o.dst D cs K
 | .call f args=>obl (callsB P f=true) (CallK0 P f (normL args) s o.dst K)
 | .gen G=>genR P s o.dst K G
 | .ask=>False
def finGD(P:Program)(o:Oper)(s:St)(K:St→Prop)(g:Bool):Res→Prop
 | .put ob (.ext v)=>obl (g=true→ob) (K (s.put o.dst (.gd g v)))
 | .put ob (.gd g' v)=>obl (g=true→g'=true∧ob) (K (s.put o.dst (.gd g v)))
 | .put ob (.own k off)=>obl (g=true→ob) (K (s.put o.dst (.gown g k off)))
 | r=>brv g (finD P o s K r) (K (s.put o.dst (.ext undef)))
def stepGD(P:Program)(o:Oper)(s:St)(K:St→Prop):Option Bool→Prop
 | some g=>finGD P o s K g (tOp P s o.op)
 | none=>False
def stepD(P:Program)(ops:List Oper)(o:Oper)(s:St)(K:St→Prop):Option (Nat×Bool)→Prop
 | none=>finD P o s K (tOp P s o.op)
 | some g=>stepGD P o s K (guardB ops s (some g))
theorem finD_fin{P:Program}{o:Oper}{s:St}{K:St→Prop}{r:Res}(h:finD P o s K r):fin P o s K r:=by
 cases r with
 | call f args=>exact ⟨h.1,[],fun k hk=>(by cases hk),h.2⟩
 | ask=>exact h.elim
 | _=>exact h
theorem stepD_step{P:Program}{ops:List Oper}{o:Oper}{s:St}{K:St→Prop}{g:Option (Nat×Bool)}(h:stepD P ops o s K g):step1 P ops o s K g:=by
 cases g with
 | none=>exact finD_fin h
 | some g=>
  simp only[stepD,step1]at h ⊢
  cases hg:guardB ops s (some g) with
  | none=>rw[hg]at h;exact h.elim
  | some b=>
   rw[hg]at h
   simp only[stepGD,stepG]at h ⊢
   generalize tOp P s o.op=r at h ⊢
   have key:brv b (finD P o s K r) (K (s.put o.dst (.ext undef)))→brv b (fin P o s K r) (K (s.put o.dst (.ext undef))):=fun h=>⟨fun e=>finD_fin (h.1 e),h.2⟩
   cases r with
   | put ob v=>cases v<;>first|exact h|exact key h
   | _=>exact key h
theorem brv_true(A B:Prop):brv true A B=A:=by simp[brv]
theorem brv_false(A B:Prop):brv false A B=B:=by simp[brv]
inductive Item where
 | code (c:Code)
 | blk (id:Nat)
 | stop (J:St→Prop)
 | marks (l:List Nat)
def marksOf:List Item→List Nat
 | []=>[]
 | .marks l :: _=>l
 | _ :: k=>marksOf k
def headId:Code→Option Nat
 | .region id _ _=>some id
 | .seq a _=>headId a
 | .block _ c=>headId c
 | .loop c=>headId c
 | _=>none
def cutO(k:List Item):Option Nat→Bool
 | some i=>(marksOf k).contains i
 | none=>false
def popTo(id:Nat):List Item→List Item
 | []=>[]
 | .blk i :: k=>if i=id then k else popTo id k
 | _ :: k=>popTo id k
def hasBlk(id:Nat):List Item→Bool
 | []=>false
 | .blk i :: k=>if i=id then true else hasBlk id k
 | _ :: k=>hasBlk id k
def csize:Code→Nat
 | .seq a b=>csize a+csize b+3
 | .cond _ a b=>csize a+csize b+3
 | .block _ c=>csize c+3
 | .loop c=>csize c+3
 | .scope c=>csize c+3
 | _=>1
def isize:List Item→Nat
 | []=>0
 | .code c :: k=>csize c+1+isize k
 | .blk _ :: k=>1+isize k
 | .stop _ :: k=>1+isize k
 | .marks _ :: k=>1+isize k
theorem isize_pop(id:Nat):∀k,isize (popTo id k)≤isize k
 | []=>Nat.le_refl _
 | .blk i :: k=>by
  have:=isize_pop id k
  simp only[popTo,isize];split<;>omega
 | .code _ :: k=>by have:=isize_pop id k;simp only[popTo,isize];omega
 | .stop _ :: k=>by have:=isize_pop id k;simp only[popTo,isize];omega
 | .marks _ :: k=>by have:=isize_pop id k;simp only[popTo,isize];omega
def DrawK(P:Program)(ops:Array Oper)(s:St)(K:St→Prop):Prop:=
 ∀c n a w Q,(∀o∈ops.toList,dOK n o.dst)→Ga c n s a w→(∀s' a' w',K s'→Ga c n s' a' w'→Q .normal a' w')→
  wpAny P .any ops Q ops.size (Array.replicate ops.size false) a w
def regK(P:Program)(ops:Array Oper)(s:St)(K:St→Prop):Bool→Prop
 | false=>runOps P ops.toList ops.toList K s
 | true=>DrawK P ops s K
def condK(a:Option (Bool×Value))(A B:Prop):Prop:=
 match a with
 | some (g,.bool t)=>obl (g=true) (brv t A B)
 | _=>False
def Le(s z:St):Prop:=∀c n ρ a w,Gam c n s ρ a w→∃ρ',Gam c n z ρ' a w
theorem Le.refl(s:St):Le s s:=fun c n ρ a w h=>⟨ρ,h⟩
def LoopK(P:Program)(R:St→Prop)(c:Code)(s:St)(V:(St→Prop)→St→Prop):Prop:=
 ∃(I:Nat→St→Prop),(∃m z,Le s z∧I m z)∧∀m s',I m s'→V (fun s''=>∃m' z,m'<m∧Le s'' z∧I m' z) s'
structure CxOK (c:Cx):Prop where
 x:∀b,b∈c.X→∃k y,c.ks k=true∧c.ρ0 k=some y∧y.b=b
def Fz(z:St)(B:St→Prop):Prop:=∀c n a w,CxOK c→Ga c n z a w→∃y,Ga c n y a w∧B y
theorem Fz.of{z:St}{B:St→Prop}(h:B z):Fz z B:=fun c n a w _ g=>⟨z,g,h⟩
def CutK(s:St)(A:(St→Prop)→St→Prop)(B:St→Prop):Prop:=∃J:St→Prop,A (fun s=>∃z,Le s z∧J z) s∧∀z,J z→Fz z B
def seqK(A C:Prop):Bool→Prop
 | false=>A
 | true=>C
def vc(P:Program)(R:St→Prop):List Item→St→Prop
 | [],s=>R s
 | .code .skip :: k,s=>vc P R k s
 | .code (.label _) :: k,s=>vc P R k s
 | .code (.seq a b) :: k,s=>seqK (vc P R (.code a :: .code b :: k) s) (CutK s (fun J s=>vc P R (.code a :: .stop J :: .code b :: k) s) (fun z=>vc P R (.code b :: k) z)) (cutO k (headId b))
 | .code (.block id c) :: k,s=>vc P R (.code c :: .blk id :: k) s
 | .code (.exit id) :: k,s=>obl (hasBlk id k=true) (vc P R (popTo id k) s)
 | .code .ret :: _,s=>R s
 | .code (.cond c a b) :: k,s=>condK (ev s c).val (vc P R (.code a :: k) s) (vc P R (.code b :: k) s)
 | .code (.region _ ops d) :: k,s=>regK P ops s (fun s'=>vc P R k s') d
 | .code (.loop c) :: k,s=>LoopK P R c s (fun J s'=>vc P R (.code c :: .stop J :: k) s')
 | .blk _ :: k,s=>vc P R k s
 | .stop J :: _,s=>J s
 | .marks _ :: k,s=>vc P R k s
 | .code (.scope c) :: k,s=>vc P R (.code c :: k) s
 | _ :: _,_=>False
termination_by k=>isize k
decreasing_by
 all_goals simp only[isize,csize]
 all_goals first|omega|(have:=isize_pop id k;omega)
def hold{α:Sort u}(x:α):α:=x
def holdA{α:Sort u}(x:α):α:=x
theorem hold_pre{α:Sort u}(x:α):hold x=holdA x:=Eq.trans (Eq.refl x) (Eq.refl x)
theorem hold_eq{α:Sort u}(x:α):holdA x=x:=Eq.trans (Eq.refl x) (Eq.refl x)
theorem fin_congr(P:Program)(o:Oper)(s:St)(K:St→Prop)(r r':Res)(h:hold r=r'):fin P o s K r=fin P o s K r':=by subst h;rfl
theorem finG_congr(P:Program)(o:Oper)(s:St)(K:St→Prop)(g g':Bool)(r r':Res)(hg:hold g=g')(h:hold r=r'):finG P o s K g r=finG P o s K g' r':=by subst h;subst hg;rfl
theorem finD_congr(P:Program)(o:Oper)(s:St)(K:St→Prop)(r r':Res)(h:hold r=r'):finD P o s K r=finD P o s K r':=by subst h;rfl
theorem finGD_congr(P:Program)(o:Oper)(s:St)(K:St→Prop)(g g':Bool)(r r':Res)(hg:hold g=g')(h:hold r=r'):finGD P o s K g r=finGD P o s K g' r':=by subst h;subst hg;rfl
theorem stepGD_congr(P:Program)(o:Oper)(s:St)(K:St→Prop)(g g':Option Bool)(hg:hold g=g'):stepGD P o s K g=stepGD P o s K g':=by subst hg;rfl
theorem stepD_congr(P:Program)(ops:List Oper)(o:Oper)(s s':St)(K:St→Prop)(g:Option (Nat×Bool))(h:hold s=s'):stepD P ops o s K g=stepD P ops o s' K g:=by subst h;rfl
theorem CallK0_congr(P:Program)(f:FuncId)(args args':List AV)(s s':St)(d:Option Nat)(K:St→Prop)(h:hold args=args')(hs:hold s=s'):CallK0 P f args s d K=CallK0 P f args' s' d K:=by subst h;subst hs;rfl
theorem stepG_congr(P:Program)(o:Oper)(s:St)(K:St→Prop)(g g':Option Bool)(hg:hold g=g'):stepG P o s K g=stepG P o s K g':=by subst hg;rfl
theorem step1_congr(P:Program)(ops:List Oper)(o:Oper)(s s':St)(K:St→Prop)(g:Option (Nat×Bool))(h:hold s=s'):step1 P ops o s K g=step1 P ops o s' K g:=by subst h;rfl
theorem runOps_congr(P:Program)(ops l:List Oper)(K:St→Prop)(s s':St)(h:hold s=s'):runOps P ops l K s=runOps P ops l K s':=by subst h;rfl
theorem brv_congr(t t':Bool)(A B:Prop)(h:hold t=t'):brv t A B=brv t' A B:=by subst h;rfl
theorem obl_congr(a a' A:Prop)(h:hold a=a'):obl a A=obl a' A:=by subst h;rfl
theorem DrawK_congr(P:Program)(ops:Array Oper)(s s':St)(K:St→Prop)(h:hold s=s'):DrawK P ops s K=DrawK P ops s' K:=by subst h;rfl
theorem regK_congr(P:Program)(ops:Array Oper)(s s':St)(K:St→Prop)(d:Bool)(h:hold s=s'):regK P ops s K d=regK P ops s' K d:=by subst h;rfl
theorem CallK_congr(P:Program)(f:FuncId)(args args':List AV)(s s':St)(d:Option Nat)(K:St→Prop)(h:hold args=args')(hs:hold s=s'):CallK P f args s d K=CallK P f args' s' d K:=by subst h;subst hs;rfl
theorem AskK_congr(P:Program)(o:Oper)(s s':St)(K:St→Prop)(hs:hold s=s'):AskK P o s K=AskK P o s' K:=by subst hs;rfl
theorem newK_congr(s s':St)(d:Option Nat)(T:NewD)(cs cs':List AV)(K:St→Prop)(hs:hold s=s')(hc:hold cs=cs'):newK s d T cs K=newK s' d T cs' K:=by subst hs;subst hc;rfl
theorem genR_congr(P:Program)(s s':St)(d:Option Nat)(K:St→Prop)(G G':GenOp)(hs:hold s=s')(h:hold G=G'):genR P s d K G=genR P s' d K G':=by subst hs;subst h;rfl
theorem appR_congr(P:Program)(s s':St)(ts:List TypeId)(args args':List AV)(d:Option Nat)(K:St→Prop)(hs:hold s=s')(h:hold args=args'):appR P s ts args d K=appR P s' ts args' d K:=by subst hs;subst h;rfl
theorem condK_congr(a a':Option (Bool×Value))(A B:Prop)(h:hold a=a'):condK a A B=condK a' A B:=by subst h;rfl
theorem seqK_congr(A C:Prop)(b b':Bool)(h:hold b=b'):seqK A C b=seqK A C b':=by subst h;rfl
theorem seqK_false(A C:Prop):seqK A C false=A:=by unfold seqK;exact Eq.trans (Eq.refl _) (Eq.refl _)
theorem seqK_true(A C:Prop):seqK A C true=C:=by unfold seqK;exact Eq.trans (Eq.refl _) (Eq.refl _)
theorem CutK_congr(s s':St)(A:(St→Prop)→St→Prop)(B:St→Prop)(h:hold s=s'):CutK s A B=CutK s' A B:=by subst h;rfl
theorem LoopK_congr(P:Program)(R:St→Prop)(c:Code)(s s':St)(V:(St→Prop)→St→Prop)(h:hold s=s'):LoopK P R c s V=LoopK P R c s' V:=by subst h;rfl
theorem vc_congr(P:Program)(R:St→Prop)(k:List Item)(s s':St)(h:hold s=s'):vc P R k s=vc P R k s':=by subst h;rfl
end Go.Proofs.Ytjapnklocibgaaa.Sx
