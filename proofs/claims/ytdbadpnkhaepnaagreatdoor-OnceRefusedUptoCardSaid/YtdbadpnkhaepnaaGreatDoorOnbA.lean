import Derived.Calls
import Derived.Laws.Sem
import Derived.Below
import Derived.Test.YtdbadpnkhaepnaaGreatDoorProg
import Derived.Test.YtdbadpnkhaepnaaGreatDoorCards
import Derived.ChangeSame
import Derived.ChangeVars
import Derived.JoinedOf
import Derived.RowKit
import Derived.RowKitTokens
import Derived.LaidLaws
import Derived.LaidHandle
import Derived.Stop.Joined
import Derived.Lib.LaidU8
import Derived.Deep.DeepHandedRow
import Derived.Deep.DeepWitnessRowRef
import Derived.ProofKit
import Derived.SizedLaws
import Derived.Carry
import Derived.OpenShut
import Derived.Deep.Slices
import Derived.Deep.Fields
import Derived.ChangeOld
import Derived.Shelf.Vars
import Derived.Lib.LaidIn
import Derived.KernelRfl
import Derived.Laws.Strings
set_option linter.unusedSimpArgs false
set_option linter.unusedVariables false
set_option linter.unusedSectionVars false
set_option linter.defProp false
namespace Go.Abs
section
open Go
inductive Tk where
 |sh|c0|own (k:Nat)
 deriving DecidableEq,Repr
inductive ae where
 |bool (b:Bool)
 |int (k:IntKind) (n:Int)
 |str (s:List UInt8)
 |slice (tk:Tk) (xs:List ae)
 |agg (cs:List ae)
 |tuple (vs:List ae)
 |ptr (id off:Nat)
 |dM (cs:List ae)
 |func (f:Nat) (caps:List ae)
 |df (id:Nat)
 |dW (id:Nat)
 |eb (ks vs:List ae)
 |bu (id ver sz lo hi:Nat)
 |dC (id ver i off:Nat)
 |jx (f:Nat) (fs:List ae)
 |cv (id t:Nat)
 |du (k t:Nat) (x:Bool) (l:List UInt8)
 |dJ (t id off:Nat)
 |raw (v:Value)
 |gw (v:Value)
 |any
 deriving Inhabited
def ae.dK:ae->Bool
 | .gw _=>true
 | .bool _ | .int .. | .str _ | .slice .. | .agg _ | .tuple _ | .ptr .. | .dM _ | .func .. | .df _ | .dW _ | .eb .. | .bu .. | .dC .. | .jx .. | .cv .. | .du .. | .dJ .. | .raw _ | .any=>false
inductive aQ where
 |cells (cs:List ae)
 |tick (sz n:Nat)
 |map (ks vs:List ae)
 |gA (s:List UInt8) (pos:Nat)
 |arr (sz ver:Nat) (xs:List ae)
 |n9
def aQ.tag:aQ->Nat
 | .cells _=>0
 | .tick sz _=>sz+3
 | .map _ _=>1
 | .gA _ _=>2
 | .arr sz _ _=>sz+3
 | .n9=>3
def aQ.fixed:aQ->Bool
 | .tick _ _ | .arr _ _ _ | .n9=>false
 |_=>true
def aQ.loose:aQ->Bool
 | .tick _ _ | .arr _ _ _=>true
 |_=>false
abbrev ai:=List aQ
abbrev Env:=List (Nat×ae)
def aK {α β:Type} (x:Option α) (f:α->Option β):Option β:=match x with
 |some a=>f a
 |none=>none
@[congr] theorem TJ {α β:Type} {x x':Option α} {f:α->Option β} (h:x=x'):aK x f=aK x' f:=by rw [h]
@[simp] theorem aL {α β:Type} (a:α) (f:α->Option β):aK (some a) f=f a:=rfl
@[simp] theorem XT {α β:Type} (f:α->Option β):aK none f=none:=rfl
def vt {α:Type} (b:Bool) (x y:Option α):Option α:=match b with
 |true=>x
 |false=>y
@[congr] theorem Y1 {α:Type} {b b':Bool} {x y:Option α} (h:b=b'):vt b x y=vt b' x y:=by rw [h]
@[simp] theorem kM {α:Type} (x y:Option α):vt true x y=x:=rfl
@[simp] theorem jq {α:Type} (x y:Option α):vt false x y=y:=rfl
@[simp] theorem GQ {α β:Type} (b:Bool) (x y:Option α) (f:α->Option β):aK (vt b x y) f=vt b (aK x f) (aK y f):=by cases b<;>rfl
open Classical in
noncomputable def aZ {α:Type} (p:Prop) (x:Option α):Option α:=if p then x else none
@[congr] theorem TM {α:Type} {p p':Prop} {x:Option α} (h:p=p'):aZ p x=aZ p' x:=by rw [h]
def a8 {α:Type} {p:Prop} {x:Option α} (h:p):aZ p x=x:=if_pos h
@[simp] theorem DQ {α:Type} (x:Option α):aZ True x=x:=if_pos trivial
@[simp] theorem TN {α:Type} (x:Option α):aZ False x=none:=if_neg not_false
@[simp] theorem TK {α β:Type} (p:Prop) (x:Option α) (f:α->Option β):aK (aZ p x) f=aZ p (aK x f):=by
 unfold aZ; split<;>rfl
def dr:Env->Nat->ae
 | [],_ => .any
 |(k,v)::e,t=>if k=t then v else dr e t
def ae.cells:ae->List ae
 | .agg cs=>cs
 |x=>[x]
def ae.cZ:ae->Bool
 | .agg _ | .tuple _ | .any | .gw _=>false
 | .raw v=>match v with | .agg _ | .tuple _=>false|_=>true
 |_=>true
def ae.cells?:ae->Option (List ae)
 | .agg cs=>some cs
 | .tuple _ | .any | .gw _=>none
 | .raw (.agg _)=>none
 |x=>some [x]
def ae.shut:ae->ae
 | .slice _ xs => .slice .sh xs
 |x=>x
def ae.cB:ae->ae
 | .slice _ xs => .slice .sh xs
 | .agg cs => .agg (cs.map ae.shut)
 |x=>x
def ae.plainCell:ae->Bool
 | .bool _ | .int .. | .str _=>true
 | .slice .sh _=>true
 | .raw v=>match v with | .pointer none | .nilFunc | .nilIface | .map none | .func _ ⟨[]⟩ ⟨[]⟩=>true|_=>false
 |_=>false
def ae.plain:ae->Bool
 | .agg cs=>cs.all ae.plainCell
 |x=>x.plainCell
def ae.dD (base:Nat) (M:ai):ae->ae
 | .slice (.own k) xs=>if k<base then .slice (.own k) xs else .slice .sh xs
 | .ptr id off=>if id<base then .ptr id off else .any
 | .df id=>if id<base then .df id else .any
 | .dW id=>if id<base then .dW id else .any
 | .bu id ver sz lo hi=>if id<base then .bu id ver sz lo hi else match M[id]? with
  |some (.arr _ v xs)=>if v=ver then .slice .sh ((xs.take hi).drop lo) else .any
  |_ => .any
 | .dC id ver i off=>if id<base then .dC id ver i off else .any
 | .cv id t=>if id<base then .cv id t else .any
 | .dJ t id off=>if id<base then .dJ t id off else .any
 | .du k t x l=>if k<base then .du k t x l else .any
 | .func _ _ | .agg _ | .tuple _ => .any
 |x=>x
def ae.fc (base:Nat) (M:ai):ae->ae
 | .func f caps => .func f (caps.map (ae.dD base M))
 |x=>x.dD base M
def ae.eS (base:Nat) (M:ai):ae->ae
 | .agg cs => .agg (cs.map (ae.fc base M))
 |x=>x.fc base M
def ae.gu (base:Nat) (M:ai):ae->ae
 | .tuple vs => .tuple (vs.map (ae.eS base M))
 |x=>x.eS base M
def aQ.back (base:Nat) (M:ai):aQ->aQ
 | .cells cs => .cells (cs.map (ae.fc base M))
 | .tick sz n => .tick sz n
 | .map ks vs => .map ks (vs.map (ae.eS base M))
 | .gA s p => .gA s p
 | .arr sz v xs => .arr sz v xs
 | .n9 => .n9
def fN (base:Nat) (M:ai):ai:=(M.take base).map (aQ.back base M)
def rN (base:Nat) (M:ai) (env:Env):Env:=env.map fun x=>(x.1,x.2.gu base M)
def ae.dV (base:Nat) (M:ai):ae->ae
 | .slice _ xs => .slice .sh xs
 | .df id=>if id<base then .df id else match M[id]? with
  |some (.map ks vs)=>if vs.all ae.plain&&ks.all ae.plainCell then .eb ks vs else .any
  |_ => .any
 |x=>x.fc base M
def ae.ef (base:Nat) (M:ai):ae->ae
 | .agg cs => .agg (cs.map (ae.dV base M))
 |x=>x.dV base M
def ae.fO (base:Nat) (M:ai):ae->ae
 | .tuple vs => .tuple (vs.map (ae.ef base M))
 |x=>x.ef base M
def ae.cQ:ae->List Nat
 | .ptr id _ | .df id | .dW id | .bu id _ _ _ _ | .dC id _ _ _=>[id]
 | .slice (.own k) _=>[k]
 | .cv id _=>[id]
 | .dJ _ id _=>[id]
 | .du k _ _ _=>[k]
 |_=>[]
def ae.fV:ae->List Nat
 | .func _ caps=>caps.flatMap ae.cQ
 |x=>x.cQ
def ae.ids:ae->List Nat
 | .agg cs=>cs.flatMap ae.fV
 |x=>x.fV
def ae.x5:ae->Bool
 | .func _ _ | .agg _ | .tuple _=>false
 |_=>true
def ae.oN:ae->Bool
 | .func _ caps=>caps.all ae.x5
 | .agg _ | .tuple _=>false
 |_=>true
def ae.flat:ae->Bool
 | .agg cs=>cs.all ae.oN
 |x=>x.oN
def aQ.flat:aQ->Bool
 | .n9=>false
 | .cells cs=>cs.all ae.oN
 | .map _ vs=>vs.all ae.flat
 |_=>true
def ae.kO (ρ:Nat->Nat):ae->ae
 | .ptr id off => .ptr (ρ id) off
 | .df id => .df (ρ id)
 | .dW id => .dW (ρ id)
 | .bu id v sz lo hi => .bu (ρ id) v sz lo hi
 | .dC id v i off => .dC (ρ id) v i off
 | .slice (.own k) xs => .slice (.own (ρ k)) xs
 | .cv id t => .cv (ρ id) t
 | .dJ t id off => .dJ t (ρ id) off
 | .du k t x l => .du (ρ k) t x l
 |x=>x
def ae.lu (ρ:Nat->Nat):ae->ae
 | .func f caps => .func f (caps.map (ae.kO ρ))
 |x=>x.kO ρ
def ae.iY (ρ:Nat->Nat):ae->ae
 | .agg cs => .agg (cs.map (ae.lu ρ))
 |x=>x.lu ρ
def ae.vl (ρ:Nat->Nat):ae->ae
 | .tuple vs => .tuple (vs.map (ae.iY ρ))
 |x=>x.iY ρ
def ae.qz:ae->Bool
 | .tuple vs=>vs.all ae.flat
 |x=>x.flat
def aQ.iY (ρ:Nat->Nat):aQ->aQ
 | .cells cs => .cells (cs.map (ae.lu ρ))
 | .map ks vs => .map ks (vs.map (ae.iY ρ))
 |b=>b
def aQ.ids:aQ->List Nat
 | .cells cs=>cs.flatMap ae.fV
 | .map _ vs=>vs.flatMap ae.ids
 |_=>[]
def nth {α:Type}:List α->Nat->Option α
 | [],_=>none
 |a::_,0=>some a
 |_::l,n+1=>nth l n
def dG {α:Type}:List α->Nat->α->List α
 | [],_,_=>[]
 |_::l,0,x=>x::l
 |a::l,n+1,x=>a::dG l n x
def eE:List Nat->List Nat->List Nat
 |a,[]=>a
 |a,x::r=>eE (if a.contains x then a else a++[x]) r
def jm (M:ai):List Nat->List Nat
 | []=>[]
 |i::r=>(match nth M i with|some b=>b.ids|none=>[])++jm M r
def fa (M:ai) (acc:List Nat):List Nat:=eE acc (jm M acc)
def reach (M:ai) (l:List Nat):List Nat:=fa M (fa M (fa M (eE [] l)))
def dh:List Nat->Nat->Nat
 | [],_=>0
 |a::l,x=>if a=x then 0 else dh l x+1
def qk (ids:List Nat) (i:Nat):Nat:=(nth ids i).getD 0
def dN (M:ai) (ρ:Nat->Nat):List Nat->Option ai
 | []=>some []
 |i::r=>match nth M i with
  |some b=>if b.flat then aK (dN M ρ r) fun l=>some (b.iY ρ::l) else none
  |none=>none
def fy (ids:List Nat) (M:ai):List Nat->ai->ai
 |i::r,b::l=>fy ids (dG M i (b.iY (qk ids))) r l
 |_,_=>M
def ae.gY (M:ai):ae->ae
 | .bu id ver sz lo hi=>match nth M id with
  |some (.arr _ v xs)=>if v=ver then .slice .sh ((xs.take hi).drop lo) else .any
  |_ => .any
 |x=>x
def ae.ou (M:ai):ae->ae
 | .agg cs => .agg (cs.map (ae.gY M))
 |x=>x.gY M
def lr (M:ai):List Nat->ai
 | []=>M
 |i::r=>match nth M i with
  |some (.arr sz _ xs)=>lr (dG M i (.tick sz xs.length)) r
  |_=>lr M r
inductive cM where
 |tmp (t:Nat)
 |pf (v:ae)
def cM.ev (env:Env):cM->ae
 | .tmp t=>dr env t
 | .pf v=>v
inductive Fv where
 |add|sub|mul|quo|rem|eql|neq|lss|leq|gtr|geq|shl|shr|and|or|xor
 deriving DecidableEq,Repr
inductive FK where
 |i|s|b
 deriving DecidableEq
inductive eT where
 |mv (x:cM)
 |own (sz:Nat) (x:cM)
 |pick (c a b:cM)
 |vi (cs:List ae)
 |box (x:cM)
 |build (zero:List ae) (parts:List (Nat×Nat×cM))
 |lits (sz:Nat) (parts:List cM)
 |yv (sz:Nat) (parts:List cM)
 |kK (n:Nat) (x:cM)
 |iL (x:cM)
 |store (n:Nat) (a x:cM)
 |uq (sz p n:Nat) (a x:cM)
 |UD (x:cM)
 |bin (op:Fv) (x y:cM)
 |Tt (ks:List FK) (neg:Bool) (x y:cM)
 |YT (neg:Bool) (x y:cM)
 |not (x:cM)
 |neg (x:cM)
 |conv (k:IntKind) (x:cM)
 |same (x:cM)
 |fn (f:Nat) (caps:List cM)
 |xQ (f:Nat) (firsts:List cM)
 |ui (x:cM) (lo hi:Option cM)
 |uj (sz:Nat) (x:cM) (lo hi mx:Option cM)
 |k9 (off:Nat) (x:cM)
 |wc (off n:Nat) (x:cM)
 |wb (off:Nat) (x:cM)
 |oO (sz:Nat) (x i:cM)
 |tJ (n sz:Nat) (x i:cM)
 |tM (n:Nat) (x i:cM)
 |tN (x i:cM)
 |extract (x:cM) (i:Nat)
 |call (f:Nat) (args:List cM)
 |oL (f:cM) (args:List cM)
 |uJ (f:Nat) (args:List cM)
 |eL (f:Nat) (args:List cM)
 |oJ (f:Nat) (args:List cM)
 |tp (sz:Nat) (zero:List ae) (x:cM)
 |M7 (x:cM)
 |GG (x:cM)
 |append (sz bytes:Nat) (x y:cM)
 |oj (e:Nat) (x y:cM)
 |oh (e:Nat) (x y:cM)
 |s2b (x:cM)
 |FM (t e:Nat) (cs:List ae)
 |FO (t e:Nat) (x:cM)
 |tZ (mx:Bool) (x y:cM)
 |b2s (x:cM)
 |mkMap
 |look (fk:FK) (zero:ae) (ok:Bool) (m k:cM)
 |cH (fk:FK) (m k v:cM)
 |GF (m:cM)
 |Hn (x:cM)
 |yA (it:cM)
 |iface (t:Nat) (x:cM)
 |raise (x:cM)
 |XN (zero:List ae) (n:cM)
 |GM (zero:List ae) (n:cM)
 |pL (sz bytes:Nat) (zero:List ae) (x n:cM)
 |xW (sz:Nat) (x y:cM)
 |FN (sz:Nat)
structure bg where
 dst:Option Nat
 op:eT
 guard:Option (Nat×Bool)
 grow:Bool:=false
 pt:Bool:=false
 sep:List Nat:=[]
 stop:Bool:=true
def ob (d:Nat) (o:eT):bg:=⟨some d,o,none,false,false,[],true⟩
def og (d g:Nat) (b:Bool) (o:eT):bg:=⟨some d,o,some (g,b),false,false,[],true⟩
def ox (o:eT):bg:=⟨none,o,none,false,false,[],true⟩
def eT.Jz:eT->Bool
 | .call .. | .oL .. | .uJ .. | .eL .. | .raise _=>true
 |_=>false
inductive br where
 |skip
 |region (ops:List bg) (draw:Bool) (live:List Nat)
 |seq (a b:br)
 |cond (c:cM) (x y:br)
 |block (id:Nat) (c:br)
 |loop (live:List Nat) (c:br)
 |exit (id:Nat)
 |ret
inductive RU where
 |normal|exit (id:Nat)|ret|gw (v:Value)
abbrev cu:=Nat->List ae->ai->Option (ae×ai)
def strLt:List UInt8->List UInt8->Bool
 |_,[]=>false
 | [],_::_=>true
 |a::x,b::y=>a<b||(a==b&&strLt x y)
def ag4 (k:IntKind) (a b:Int):Int:=k.wrap (BitVec.ofInt k.bits a &&& BitVec.ofInt k.bits b).toNat
def ior (k:IntKind) (a b:Int):Int:=k.wrap (BitVec.ofInt k.bits a ||| BitVec.ofInt k.bits b).toNat
def ag9 (k:IntKind) (a b:Int):Int:=k.wrap (BitVec.ofInt k.bits a ^^^ BitVec.ofInt k.bits b).toNat
def jt (b:UInt8):ae := .int .u8 b.toNat
def jb (op:Fv):ae->ae->Option ae
 | .int k a,.int k' b =>
  match op with
  | .shl=>if 0<=b then some (.int k (k.wrap (a*2 ^ (min b.toNat k.bits)))) else none
  | .shr=>if 0<=b then some (.int k (a.fdiv (2 ^ (min b.toNat k.bits)))) else none
  |op=>if k≠k' then none else
   match op with
   | .add=>some (.int k (k.wrap (a+b)))
   | .sub=>some (.int k (k.wrap (a-b)))
   | .mul=>some (.int k (k.wrap (a*b)))
   | .quo=>if b=0 then none else some (.int k (k.wrap (a.tdiv b)))
   | .rem=>if b=0 then none else some (.int k (a.tmod b))
   | .eql=>some (.bool (a==b))
   | .neq=>some (.bool (a != b))
   | .lss=>some (.bool (a<b))
   | .leq=>some (.bool (a<=b))
   | .gtr=>some (.bool (a>b))
   | .geq=>some (.bool (a>=b))
   | .and=>some (.int k (ag4 k a b))
   | .or=>some (.int k (ior k a b))
   | .xor=>some (.int k (ag9 k a b))
   |_=>none
 | .str a,.str b =>
  match op with
  | .add=>if ((a.length+b.length:Nat):Int)>IntKind.i64.max then none else some (.str (a++b))
  | .eql=>some (.bool (a==b))
  | .neq=>some (.bool (a != b))
  | .lss=>some (.bool (strLt a b))
  | .leq=>some (.bool (strLt a b||a==b))
  | .gtr=>some (.bool (!(strLt a b||a==b)))
  | .geq=>some (.bool (!(strLt a b)))
  |_=>none
 |_,_=>none
def fW:FK->ae->ae->Option Bool
 | .i,.int k a,.int k' b=>if k=k' then some (a==b) else none
 | .s,.str a,.str b=>some (a==b)
 | .b,.bool a,.bool b=>some (a==b)
 |_,_,_=>none
def eV:List FK->List ae->List ae->Option Bool
 | [],[],[]=>some true
 |k::ks,a::x,b::y=>aK (fW k a b) fun e=>aK (eV ks x y) fun f=>some (e&&f)
 |_,_,_=>none
def ae.norm:ae->ae
 | .agg [c]=>c
 |x=>x
def valOf:ae->Option Value
 | .int k n=>some (.int k n)
 | .agg [.int k n]=>some (.agg #[.int k n])
 |_=>none
def bytesOf:List ae->Option (List UInt8)
 | []=>some []
 | .int .u8 n::r=>aK (bytesOf r) fun l=>some (UInt8.ofNat n.toNat::l)
 |_=>none
def rm (fk:FK) (k:ae):List ae->List ae->Option (Option ae)
 | [],[]=>some none
 |k'::ks,v::vs=>aK (fW fk k k') fun b=>vt b (some (some v)) (rm fk k ks vs)
 |_,_=>none
def pr (fk:FK) (k v:ae):List ae->List ae->Option (List ae×List ae)
 | [],[]=>aK (fW fk k k) fun _=>some ([k],[v])
 |k'::ks,v'::vs=>aK (fW fk k k') fun b=>vt b (some (k::ks,v::vs)) (aK (pr fk k v ks vs) fun x=>some (k'::x.1,v'::x.2))
 |_,_=>none
def jK (zero:ae) (ok:Bool) (r:Option ae):ae:=match ok with
 |true => .tuple [r.getD zero,.bool r.isSome]
 |false=>r.getD zero
def mapOf (M:ai):ae->Option (List ae×List ae)
 | .df id=>match nth M id with|some (.map ks vs)=>some (ks,vs)|_=>none
 | .eb ks vs=>some (ks,vs)
 |_=>none
def gj (cs:List ae) (off:Nat) (new:List ae):List ae:=cs.take off++(new++cs.drop (off+new.length))
def putCells (e:ae) (off:Nat) (new:List ae):ae:=match e,new with
 | .agg cs,new => .agg (gj cs off new)
 |_,[c]=>c
 |e,_=>e
def fH (env:Env):List ae->List (Nat×Nat×cM)->Option (List ae)
 |cs,[]=>some cs
 |cs,(off,n,x)::r =>
  aK (x.ev env).cells? fun new=>if new.length=n/\off+n<=cs.length then fH env (gj cs off new) r else none
def kY (env:Env) (sz:Nat):List cM->Option (List ae)
 | []=>some []
 |x::r=>if (x.ev env).cB.plain=true/\(x.ev env).cB.cells.length=sz then aK (kY env sz r) fun l=>some ((x.ev env).cB::l) else none
def cS (env:Env) (n:Nat):Option cM->Option Int
 |none=>some n
 |some x=>match x.ev env with | .int _ i=>some i|_=>none
def wid (xs:List ae) (sz:Nat):Prop:=∀x,x∈xs->x.cells.length=sz
def bP (n bytes:Nat):Prop:=n*bytes<=2 ^ 44
noncomputable def an (call:cu) (f:Nat) (vs:List ae) (M:ai):Option (ae×ai) :=
 if vs.all ae.flat then
  aK (dN M (dh (reach M (vs.flatMap ae.ids))) (reach M (vs.flatMap ae.ids))) fun B =>
   if fa M (reach M (vs.flatMap ae.ids))=reach M (vs.flatMap ae.ids) then
    aK (call f (vs.map (ae.iY (dh (reach M (vs.flatMap ae.ids))))) B) fun x =>
     if x.2.length=B.length/\x.1.qz=true/\x.2.all aQ.flat=true then some (x.1.vl (qk (reach M (vs.flatMap ae.ids))),fy (reach M (vs.flatMap ae.ids)) M (reach M (vs.flatMap ae.ids)) x.2) else none
   else none
 else none
noncomputable def uf (call:cu) (f:Nat) (vs:List ae) (M:ai):Option (ae×ai) :=
 if vs.all ae.flat=true/\vs.flatMap ae.ids=[] then
  aK (call f vs []) fun x=>match x.1,x.2 with
   | .slice (.own 0) xs,[.tick sz n]=>some (.slice (.own M.length) xs,M++[.tick sz n])
   |_,_=>none
 else none
noncomputable def bD (call:cu) (env:Env) (M:ai):eT->Option (ae×ai)
 | .mv x=>some (x.ev env,M)
 | .own sz x =>
  match x.ev env with
  | .slice .c0 []=>some (.slice (.own M.length) [],M++[.tick sz 0])
  |_=>none
 | .pick c a b=>match c.ev env with
  | .bool t=>vt t (some (a.ev env,M)) (some (b.ev env,M))
  |_=>none
 | .vi cs=>some (.ptr M.length 0,M++[.cells cs])
 | .box x=>aK (x.ev env).cells? fun cs=>some (.ptr M.length 0,M++[.cells cs])
 | .build zero parts=>aK (fH env zero parts) fun cs=>some (.agg cs,M)
 | .lits sz parts=>aK (kY env sz parts) fun l=>some (match l with|[] => .slice .c0 []|_ => .slice .sh l,M)
 | .yv sz parts=>aK (kY env sz parts) fun l=>some (.slice (.own M.length) l,M++[.tick sz l.length])
 | .kK n x =>
  match x.ev env with
  | .ptr id off=>match nth M id with
   |some (.cells cs)=>if off+n<=cs.length then some (.agg ((cs.drop off).take n),M) else none
   |_=>none
  | .dM cs=>if n<=cs.length then some (.agg (cs.take n),M) else none
  | .dC id ver i off=>match nth M id with
   |some (.arr _ v xs)=>if v=ver then aK (xs[i]?) fun e=>if off+n<=e.cells.length then some (.agg ((e.cells.drop off).take n),M) else none else none
   |_=>none
  |_=>none
 | .iL x =>
  match x.ev env with
  | .ptr id off=>match nth M id with
   |some (.cells cs)=>aK (nth cs off) fun c=>some (c,M)
   |_=>none
  | .dM cs=>aK (nth cs 0) fun c=>some (c,M)
  | .dC id ver i off=>match nth M id with
   |some (.arr _ v xs)=>if v=ver then aK (xs[i]?) fun e=>aK (nth e.cells off) fun c=>some (c,M) else none
   |_=>none
  |_=>none
 | .store n a x =>
  match a.ev env with
  | .ptr id off=>match nth M id with
   |some (.cells cs)=>aK (x.ev env).cells? fun new =>
    if new.length=n/\off+n<=cs.length/\new.all ae.cZ=true then some (.any,dG M id (.cells (gj cs off new))) else none
   |_=>none
  | .dC id ver i off=>match nth M id with
   |some (.arr sz v xs)=>aK (x.ev env).cells? fun new=>aK (xs[i]?) fun e =>
    if v=ver/\new.length=n/\off+n<=e.cells.length/\(new.map ae.shut).all ae.plainCell=true then some (.any,dG M id (.arr sz ver (dG xs i (putCells e off (new.map ae.shut))))) else none
   |_=>none
  |_=>none
 | .uq sz p n a x =>
  match a.ev env with
  | .ptr id off=>match nth M id with
   |some (.cells cs)=>aK (x.ev env).cells? fun new =>
    match nth new p with
    |some (.slice .c0 [])=>if new.length=n/\off+n<=cs.length/\new.all ae.cZ=true then some (.any,dG M id (.cells (gj cs off (dG new p (.slice (.own M.length) []))))++[.tick sz 0]) else none
    |_=>none
   |_=>none
  |_=>none
 | .UD x=>match x.ev env with
  | .ptr id off=>some (.ptr id off,M)
  | .dM cs=>some (.dM cs,M)
  | .func f caps=>some (.func f caps,M)
  | .dC id v i off=>some (.dC id v i off,M)
  |_=>none
 | .bin op x y=>aK (jb op (x.ev env) (y.ev env)) fun v=>some (v,M)
 | .Tt ks neg x y =>
  match x.ev env,y.ev env with
  | .agg a,.agg b=>aK (eV ks a b) fun e=>some (.bool (match neg with|true => !e|false=>e),M)
  |_,_=>none
 | .YT neg x y=>match x.ev env,y.ev env with
  | .bool a,.bool b=>some (.bool (match neg with|true => !(a==b)|false=>a==b),M)
  |_,_=>none
 | .not x=>match x.ev env with | .bool b=>some (.bool (!b),M)|_=>none
 | .neg x=>match x.ev env with | .int k n=>some (.int k (k.wrap (0-n)),M)|_=>none
 | .conv k x=>match x.ev env with | .int _ n=>some (.int k (k.wrap n),M)|_=>none
 | .same x=>match x.ev env with | .str s=>some (.str s,M)|_=>none
 | .fn f caps=>some (.func f (caps.map (cM.ev env)),M)
 | .xQ f firsts=>if (firsts.map fun x=>(x.ev env).cB).all ae.plain then some (.jx f (firsts.map fun x=>(x.ev env).cB),M) else none
 | .ui x lo hi =>
  match x.ev env with
  | .str s=>aK (cS env s.length hi) fun h=>aK (cS env 0 lo) fun l =>
   aZ (0<=h/\h<=s.length/\0<=l/\l<=h) (some (.str ((s.take h.toNat).drop l.toNat),M))
  |_=>none
 | .uj sz x lo hi mx =>
  match x.ev env with
  | .slice _ xs=>aZ (wid xs sz) <| aK (cS env xs.length hi) fun h=>aK (cS env 0 lo) fun l =>
   match mx with
   |none=>aZ (0<=h/\h<=xs.length/\0<=l/\l<=h) (some (.slice .sh ((xs.take h.toNat).drop l.toNat),M))
   |some m=>match m.ev env with
    | .int _ m=>aZ (0<=m/\m<=xs.length/\0<=h/\h<=m/\0<=l/\l<=h)
      (vt (m==0) (some (.slice .c0 [],M)) (some (.slice .sh ((xs.take h.toNat).drop l.toNat),M)))
    |_=>none
  | .bu id v sz' al ah=>aZ (sz'=sz) <| aK (cS env (ah-al) hi) fun h=>aK (cS env 0 lo) fun l =>
   match mx with
   |none=>aZ (0<=h/\h<=(ah-al:Nat)/\0<=l/\l<=h) (vt (l==h) (some (.slice .sh [],M)) (some (.bu id v sz (al+l.toNat) (al+h.toNat),M)))
   |some m=>match m.ev env with
    | .int _ m=>aZ (0<=m/\m<=(ah-al:Nat)/\0<=h/\h<=m/\0<=l/\l<=h)
      (vt (m==0) (some (.slice .c0 [],M)) (vt (l==h) (some (.slice .sh [],M)) (some (.bu id v sz (al+l.toNat) (al+h.toNat),M))))
    |_=>none
  |_=>none
 | .k9 off x=>match x.ev env with
  | .ptr id o=>some (.ptr id (o+off),M)
  | .dM cs=>some (.dM (cs.drop off),M)
  | .dC id v i o=>some (.dC id v i (o+off),M)
  |_=>none
 | .wc off n x=>match x.ev env with
  | .agg cs=>if off+n<=cs.length then some (.agg ((cs.drop off).take n),M) else none
  |_=>none
 | .wb off x=>match x.ev env with
  | .agg cs=>aK (nth cs off) fun c=>some (c,M)
  |_=>none
 | .oO sz x i =>
  match x.ev env,i.ev env with
  | .slice _ xs,.int _ n=>aZ (0<=n) (aK (xs[n.toNat]?) fun e=>if e.cells.length=sz then some (.dM e.cells,M) else none)
  | .bu id v sz' lo hi,.int _ n=>aZ (0<=n/\n<(hi-lo:Nat)/\sz'=sz) (some (.dC id v (lo+n.toNat) 0,M))
  |_,_=>none
 | .tJ n sz x i =>
  match x.ev env,i.ev env with
  | .dM cs,.int _ m=>aZ (0<=m/\m<n/\n*sz<=cs.length) (some (.dM (cs.drop (m.toNat*sz)),M))
  | .ptr id off,.int _ m=>aZ (0<=m/\m<n) (some (.ptr id (off+m.toNat*sz),M))
  |_,_=>none
 | .tM n x i =>
  match x.ev env,i.ev env with
  | .agg cs,.int _ m=>aZ (0<=m/\m<n) (aK (cs[m.toNat]?) fun c=>some (c,M))
  |_,_=>none
 | .tN x i =>
  match x.ev env,i.ev env with
  | .str s,.int _ n=>aZ (0<=n) (aK (s[n.toNat]?) fun b=>some (.int .u8 b.toNat,M))
  |_,_=>none
 | .extract x i=>match x.ev env with | .tuple vs=>aK (nth vs i) fun v=>some (v,M)|_=>none
 | .call f args=>an call f (args.map fun x=>(x.ev env).cB) M
 | .uJ f args=>call f (args.map (cM.ev env)) M
 | .eL f args=>an call f (args.map fun x=>((x.ev env).ou M).cB) (lr M ((args.map (cM.ev env)).flatMap ae.ids))
 | .oJ f args=>uf call f (args.map fun x=>(x.ev env).cB) M
 | .tp sz zero x=>match x.ev env with
  | .slice _ xs=>match xs with|[]=>some (.any,M)|_=>none
  | .bu id ver sz' lo hi=>match nth M id with
   |some (.arr sz0 v xs)=>if v=ver/\sz'=sz/\zero.length=sz/\zero.all ae.plainCell=true then some (.any,dG M id (.arr sz0 ver (xs.take lo++(List.replicate (hi-lo) (.agg zero)++xs.drop hi)))) else none
   |_=>none
  |_=>none
 | .oL f args=>match f.ev env with
  | .func g caps=>an call g ((args.map fun x=>(x.ev env).cB)++caps) M
  | .jx g fs=>an call g (fs++args.map fun x=>(x.ev env).cB) M
  | .raw v=>match v with
   | .func (.func g) ⟨[]⟩ ⟨[]⟩=>an call g (args.map fun x=>(x.ev env).cB) M
   |_=>none
  |_=>none
 | .M7 x=>match x.ev env with | .str s=>some (.int .i64 s.length,M)|_=>none
 | .GG x=>match x.ev env with
  | .slice _ xs=>some (.int .i64 xs.length,M)
  | .bu _ _ _ lo hi=>some (.int .i64 (hi-lo:Nat),M)
  |_=>none
 | .append sz bytes x y =>
  match x.ev env,y.ev env with
  | .slice tk xs,.slice _ ys =>
   aZ (bP (xs.length+ys.length) bytes/\wid xs sz/\wid ys sz) (
    match tk with
    | .c0=>match xs with|[]=>some (.slice (.own M.length) ys,M++[.tick sz ys.length])|_=>none
    | .own k=>match nth M k with
     |some (.tick sz' n)=>aZ (sz'=sz/\n=xs.length) (some (.slice (.own k) (xs++ys),dG M k (.tick sz (xs.length+ys.length))))
     |_=>none
    | .sh=>none)
  | .bu id ver sz' lo hi,.slice _ ys=>match nth M id with
   |some (.arr sz0 v xs)=>aZ (v=ver/\sz'=sz/\lo=0/\hi=xs.length/\bP (xs.length+ys.length) bytes/\wid xs sz/\wid ys sz/\0<ys.length)
     (some (.bu id (ver+1) sz 0 (xs.length+ys.length),dG M id (.arr sz0 (ver+1) (xs++ys))))
   |_=>none
  |_,_=>none
 | .oj e y z =>
  match y.ev env,z.ev env with
  | .du k t x l,.str s=>match nth M k with
   |some (.tick sz n)=>aZ (sz=1/\t=e/\n=l.length/\bP (l.length+s.length) 1) (some (.du k t x (l++s),dG M k (.tick 1 (l.length+s.length))))
   |_=>none
  |_,_=>none
 | .oh e y z =>
  match y.ev env,z.ev env with
  | .du k t x l,.slice _ ys=>aK (bytesOf ys) fun s=>aZ (ys=s.map jt) (match nth M k with
   |some (.tick sz n)=>aZ (sz=1/\t=e/\n=l.length/\bP (l.length+s.length) 1) (some (.du k t x (l++s),dG M k (.tick 1 (l.length+s.length))))
   |_=>none)
  |_,_=>none
 | .s2b x=>match x.ev env with | .str l=>some (.slice .sh (l.map jt),M)|_=>none
 | .FO t e x=>match x.ev env with
  | .agg cs=>match cs with
   | .raw (.pointer none) :: .slice .c0 []::rest=>some (.ptr (M.length+1) 0,M++[.tick 1 0,.cells (.cv (M.length+1) t :: .du M.length e false []::rest)])
   |_=>none
  |_=>none
 | .FM t e cs=>match cs with
  | .raw (.pointer none) :: .slice .c0 []::rest=>some (.ptr (M.length+1) 0,M++[.tick 1 0,.cells (.cv (M.length+1) t :: .du M.length e true []::rest)])
  |_=>none
 | .tZ mx x y=>match x.ev env,y.ev env with
  | .int k a,.int _ b=>some (.int k (match mx with|true=>if b>a then b else a|false=>if b<a then b else a),M)
  |_,_=>none
 | .b2s x=>match x.ev env with | .slice _ xs=>aK (bytesOf xs) fun l=>some (.str l,M)|_=>none
 | .mkMap=>some (.df M.length,M++[.map [] []])
 | .look fk zero ok m k=>aK (mapOf M (m.ev env)) fun e=>aK (rm fk (k.ev env) e.1 e.2) fun r=>some (jK zero ok r,M)
 | .cH fk m k v=>match m.ev env with
  | .df id=>match nth M id with
   |some (.map ks vs)=>aK (pr fk (k.ev env) (v.ev env) ks vs) fun e=>some (.any,dG M id (.map e.1 e.2))
   |_=>none
  |_=>none
 | .GF m=>aK (mapOf M (m.ev env)) fun e=>some (.int .i64 e.1.length,M)
 | .Hn x=>match x.ev env with | .str s=>some (.dW M.length,M++[.gA s 0])|_=>none
 | .yA it=>match it.ev env with
  | .dW id=>match nth M id with
   |some (.gA s pos)=>vt (decide (pos<s.length))
     (some (.tuple [.bool true,.int .i64 pos,.int .i32 (Utf8.decode ⟨s.toArray⟩ pos).1],dG M id (.gA s (pos+(Utf8.decode ⟨s.toArray⟩ pos).2))))
     (some (.tuple [.bool false],M))
   |_=>none
  |_=>none
 | .XN zero n=>match n.ev env with
  | .int _ k=>aZ (0<=k/\bP k.toNat (8*zero.length)/\zero.all ae.plainCell=true) (some (.slice .sh (List.replicate k.toNat (ae.agg zero).norm),M))
  |_=>none
 | .GM zero n=>match n.ev env with
  | .int _ k=>aZ (0<=k/\bP k.toNat (8*zero.length)/\zero.all ae.plainCell=true) (some (.bu M.length 0 zero.length 0 k.toNat,M++[.arr zero.length 0 (List.replicate k.toNat (ae.agg zero).norm)]))
  |_=>none
 | .pL sz bytes zero x n =>
  match x.ev env,n.ev env with
  | .slice .c0 [],.int _ k=>aZ (0<=k/\bP k.toNat bytes/\zero.length=sz/\zero.all ae.plainCell=true)
    (vt (k==0) (some (.slice .c0 [],M)) (some (.bu M.length 0 sz 0 k.toNat,M++[.arr sz 0 (List.replicate k.toNat (ae.agg zero).norm)])))
  | .bu id ver sz' lo hi,.int _ k=>match nth M id with
   |some (.arr sz0 v xs)=>aZ (v=ver/\sz'=sz/\lo=0/\hi=xs.length/\0<=k/\bP (xs.length+k.toNat) bytes/\zero.length=sz/\zero.all ae.plainCell=true/\0<xs.length)
     (vt (k==0) (some (.bu id ver sz' lo hi,M)) (some (.bu id (ver+1) sz 0 (xs.length+k.toNat),dG M id (.arr sz0 (ver+1) (xs++List.replicate k.toNat (ae.agg zero).norm)))))
   |_=>none
  |_,_=>none
 | .xW sz x y =>
  match x.ev env,y.ev env with
  | .slice .sh [],.slice _ ys=>aZ (wid ys sz) (some (.int .i64 0,M))
  | .bu id ver sz' lo hi,.slice _ ys=>match nth M id with
   |some (.arr sz0 v xs)=>aZ (v=ver/\sz'=sz/\wid ys sz/\0<xs.length)
     (some (.int .i64 (min ys.length (hi-lo):Nat),dG M id (.arr sz0 ver (xs.take lo++(ys.take (min ys.length (hi-lo))++xs.drop (lo+min ys.length (hi-lo)))))))
   |_=>none
  |_,_=>none
 | .FN sz=>some (.ptr (M.length+1) 0,M++[.arr sz 0 [],.cells [.bu M.length 0 sz 0 0]])
 | .iface t x=>match x.ev env with
  | .ptr id off=>some (.dJ t id off,M)
  |y=>aK (valOf y) fun v=>some (.raw (.iface t v),M)
 | .raise x=>match x.ev env with
  | .raw v=>match v with
   | .iface t u=>some (.gw (.iface t u),M)
   |_=>none
  |_=>none
def jM (env:Env) (dst:Option Nat) (v:ae):Env :=
 match dst with
 |some d=>(d,v)::env
 |none=>env
def eT.bC (env:Env):eT->List Nat
 | .call _ args=>(args.map fun x=>(x.ev env).cB).flatMap ae.ids
 | .oL f args=>match f.ev env with
  | .func _ caps=>((args.map fun x=>(x.ev env).cB)++caps).flatMap ae.ids
  | .jx _ fs=>(fs++args.map fun x=>(x.ev env).cB).flatMap ae.ids
  | .raw v=>match v with
   | .func (.func _) ⟨[]⟩ ⟨[]⟩=>(args.map fun x=>(x.ev env).cB).flatMap ae.ids
   |_=>[]
  |_=>[]
 |_=>[]
def rz (env:Env) (M M':ai):List Nat->Prop
 | []=>True
 |z::r=>(match dr env z with
  | .ptr id _=>nth M' id=nth M id
  |_=>False)/\rz env M M' r
noncomputable def ic (call:cu) (o:bg) (env:Env) (M:ai):Option (ae×ai) :=
 match o.pt with
 |true=>aZ (o.op.bC env=[]) (bD call env M o.op)
 |false=>match o.grow with
  |false=>bD call env M o.op
  |true=>aK (bD call env M o.op) fun x=>aZ (M <+: x.2\/(o.sep≠[]/\rz env M x.2 o.sep)) (some x)
structure Out where
 e:RU
 env:Env
 mem:ai
def xl (c:Bool) (x:ae×ai) (k:Option Out):Option Out:=match x.1 with
 | .gw v=>match c with
  |true=>some ⟨.gw v,[],x.2⟩
  |false=>none
 |_=>k
def bg.lets (o:bg):Bool:=o.op.Jz&&o.stop
noncomputable def cE (call:cu):List bg->Env->ai->Option Out
 | [],env,M=>some ⟨.normal,env,M⟩
 |o::r,env,M =>
  match o.guard with
  |none=>aK (ic call o env M) fun x=>xl o.lets x (cE call r (jM env o.dst x.1) x.2)
  |some (t,want)=>match dr env t with
   | .bool b=>vt (b==want) (aK (ic call o env M) fun x=>xl o.lets x (cE call r (jM env o.dst x.1) x.2))
    (cE call r (jM env o.dst (.tuple [])) M)
   | .tuple []=>cE call r (jM env o.dst (.tuple [])) M
   |_=>none
def gI (env:Env) (live:List Nat):Env:=live.map fun t=>(t,dr env t)
def Out.jI (live:List Nat) (o:Out):Out:=match o.e with
 | .normal=>⟨.normal,gI o.env live,o.mem⟩
 |_=>o
open Classical in
noncomputable def lim {α:Type} (F:Nat->Option α):Option α:=if h:∃n,(F n).isSome=true then F (Classical.choose h) else none
def nC (o:Out) (k:Env->ai->Option Out):Option Out:=match o.e with
 | .normal=>k o.env o.mem
 |_=>some o
def pw (id:Nat) (o:Out):Out:=match o.e with
 | .exit i=>if i=id then ⟨.normal,o.env,o.mem⟩ else o
 |_=>o
def iter (f:Env->ai->Option Out) (live:List Nat):Nat->Env->ai->Option Out
 |0,_,_=>none
 |n+1,env,M=>aK (f (gI env live) M) fun o=>nC o fun e m=>iter f live n (rN M.length m (gI e live)) (fN M.length m)
noncomputable def bV (call:cu):br->Env->ai->Option Out
 | .skip,env,M=>some ⟨.normal,env,M⟩
 | .region ops _ live,env,M=>aK (cE call ops env M) fun o=>some (o.jI live)
 | .seq a b,env,M=>aK (bV call a env M) fun o=>nC o (bV call b)
 | .cond c x y,env,M=>match c.ev env with
  | .bool t=>vt t (bV call x env M) (bV call y env M)
  |_=>none
 | .block id c,env,M=>aK (bV call c env M) fun o=>some (pw id o)
 | .loop live c,env,M=>lim fun n=>iter (bV call c) live n env M
 | .exit id,env,M=>some ⟨.exit id,env,M⟩
 | .ret,env,M=>some ⟨.ret,env,M⟩
inductive nh where
 |tmp (t:Nat)
 |eW (t n:Nat)
 |Tj (t:Nat)
structure cL where
 nparams:Nat
 results:List nh
 body:br
def w6 (env:Env) (M:ai):nh->Option ae
 | .tmp t=>some (dr env t)
 | .eW t n=>match dr env t with
  | .ptr id off=>match nth M id with
   |some (.cells cs)=>if off+n<=cs.length then some (.agg ((cs.drop off).take n)) else none
   |_=>none
  |_=>none
 | .Tj t=>match dr env t with
  | .ptr id off=>match nth M id with
   |some (.cells cs)=>nth cs off
   |_=>none
  |_=>none
def k7 (env:Env) (M:ai):List nh->Option (List ae)
 | []=>some []
 |r::rs=>aK (w6 env M r) fun v=>aK (k7 env M rs) fun l=>some (v::l)
def one:List ae->ae
 | [v]=>v
 |l => .tuple l
def gd:Nat->List ae->Env
 |_,[]=>[]
 |i,v::r=>(i,v)::gd (i+1) r
def finish (res:List nh) (base:Nat) (o:Out):Option (ae×ai) :=
 match o.e with
 | .exit _=>none
 | .gw v=>some (.gw v,fN base o.mem)
 |_=>aK (k7 o.env o.mem res) fun l=>some ((one l).fO base o.mem,fN base o.mem)
structure uF where
 code:Nat->Option cL
 iX:Nat->Option (List ae->ai->Option (ae×ai))
noncomputable def eD (T:uF):Nat->cu
 |0,f,args,M=>match T.iX f with
  |some g=>g args M
  |none=>none
 |n+1,f,args,M=>match T.iX f with
  |some g=>g args M
  |none=>match T.code f with
   |none=>none
   |some fn=>if args.length=fn.nparams then aK (bV (eD T n) fn.body (gd 0 args) M) (finish fn.results M.length) else none
noncomputable def af (T:uF):cu:=fun f args M=>lim fun n=>eD T n f args M
def jJ {α:Type} {F:Nat->Option α} (hm:∀n x,F n=some x->F (n+1)=some x) {n:Nat} {x:α} (h:F n=some x):lim F=some x:=by
 have up:∀k n x,F n=some x->F (n+k)=some x:=by
  intro k
  induction k with
  |zero=>intro n x h; exact h
  |succ k ih=>intro n x h; exact hm _ _ (ih n x h)
 unfold lim
 have hex:∃n,(F n).isSome=true:=⟨n,by simp [h]⟩
 rw [dif_pos hex]
 have hc:=Classical.choose_spec hex
 generalize Classical.choose hex=m at *
 obtain ⟨y,hy⟩:=Option.isSome_iff_exists.1 hc
 rcases Nat.le_total n m with hle|hle
 ·have:=up (m-n) n x h
  rw [show n+(m-n)=m by omega] at this
  exact this
 ·have:=up (n-m) m y hy
  rw [show m+(n-m)=n by omega,h] at this
  rw [hy,this]
def ov {α:Type} {F:Nat->Option α} {x:α} (h:lim F=some x):∃n,F n=some x:=by
 unfold lim at h
 split at h
 ·exact ⟨_,h⟩
 ·cases h
def o6 (C C':cu):Prop:=∀f a M x,C f a M=some x->C' f a M=some x
def av {α β:Type} {x:Option α} {f:α->Option β} {y:β} (h:aK x f=some y):∃a,x=some a/\f a=some y:=by
 cases x with
 |none=>cases h
 |some a=>exact ⟨a,rfl,h⟩
def fE {α:Type} {b:Bool} {x y:Option α} {z:α} (h:vt b x y=some z):(b=true/\x=some z)\/(b=false/\y=some z):=by
 cases b
 ·exact .inr ⟨rfl,h⟩
 ·exact .inl ⟨rfl,h⟩
def bc {α:Type} {p:Prop} {x:Option α} {z:α} (h:aZ p x=some z):p/\x=some z:=by
 unfold aZ at h
 split at h
 ·exact ⟨by assumption,h⟩
 ·cases h
def iq {C:cu} {f:Nat} {vs:List ae} {M:ai} {x:ae×ai} (h:an C f vs M=some x) :
  ∃a B y,C f a B=some y/\∀C':cu,C' f a B=some y->an C' f vs M=some x:=by
 unfold an at h
 split at h
 ·rename_i hf
  obtain ⟨B,hB,h⟩:=av h
  split at h
  ·rename_i hc
   obtain ⟨y,hy,h⟩:=av h
   refine ⟨_,B,y,hy,fun C' hC'=>?_⟩
   unfold an
   rw [if_pos hf,hB]
   simp only [aL]
   rw [if_pos hc,hC']
   exact h
  ·cases h
 ·cases h
def Eg {C:cu} {env:Env} {M:ai} {o:eT} {x:ae×ai} (h:bD C env M o=some x) :
  (∀C':cu,bD C' env M o=some x)\/∃f a B y,C f a B=some y/\∀C':cu,C' f a B=some y->bD C' env M o=some x:=by
 cases o
 case call f args =>
  simp only [bD] at h ⊢
  obtain ⟨a,B,y,h1,h2⟩:=iq h
  exact .inr ⟨f,a,B,y,h1,h2⟩
 case oJ f args =>
  simp only [bD] at h ⊢
  unfold uf at h
  split at h
  ·rename_i hc
   obtain ⟨y,hy,h⟩:=av h
   refine .inr ⟨f,_,[],y,hy,fun C' hC'=>?_⟩
   unfold uf
   rw [if_pos hc,hC']
   exact h
  ·cases h
 case uJ f args=>exact .inr ⟨f,_,_,_,h,fun _ h'=>h'⟩
 case eL f args =>
  simp only [bD] at h ⊢
  obtain ⟨a,B,y,h1,h2⟩:=iq h
  exact .inr ⟨f,a,B,y,h1,h2⟩
 case oL f args =>
  simp only [bD] at h ⊢
  split at h
  ·rename_i g caps hg
   obtain ⟨a,B,y,h1,h2⟩:=iq h
   exact .inr ⟨g,a,B,y,h1,h2⟩
  ·rename_i g fs hg
   obtain ⟨a,B,y,h1,h2⟩:=iq h
   exact .inr ⟨g,a,B,y,h1,h2⟩
  ·split at h
   ·obtain ⟨a,B,y,h1,h2⟩:=iq h
    exact .inr ⟨_,a,B,y,h1,h2⟩
   ·cases h
  ·cases h
 all_goals exact .inl fun _=>h
def vJ {C C':cu} (hC:o6 C C') {env:Env} {M:ai} {o:eT} {x:ae×ai} (h:bD C env M o=some x):bD C' env M o=some x:=by
 rcases Eg h with h|⟨f,a,B,y,h1,h2⟩
 ·exact h C'
 ·exact h2 C' (hC _ _ _ _ h1)
def j7 {C:cu} {o:bg} {env:Env} {M:ai} {x:ae×ai} (h:ic C o env M=some x) :
  (o.pt=true/\o.op.bC env=[]/\bD C env M o.op=some x)\/(o.pt=false/\o.grow=false/\bD C env M o.op=some x)\/(o.pt=false/\o.grow=true/\(M <+: x.2\/(o.sep≠[]/\rz env M x.2 o.sep))/\bD C env M o.op=some x):=by
 unfold ic at h
 split at h
 ·obtain ⟨h1,h2⟩:=bc h
  exact .inl ⟨by assumption,h1,h2⟩
 ·split at h
  ·exact .inr (.inl ⟨by assumption,by assumption,h⟩)
  ·obtain ⟨y,hy,h⟩:=av h
   obtain ⟨h1,h2⟩:=bc h
   injection h2 with h2; subst h2
   exact .inr (.inr ⟨by assumption,by assumption,h1,hy⟩)
def vL {C C':cu} (hC:o6 C C') {env:Env} {M:ai} {o:bg} {x:ae×ai} (h:ic C o env M=some x):ic C' o env M=some x:=by
 rcases j7 h with ⟨hn,hi,h1⟩|⟨hn,hg,h1⟩|⟨hn,hg,hp,h1⟩
 ·unfold ic; rw [hn,vJ hC h1]; exact a8 hi
 ·unfold ic; rw [hn,hg]; exact vJ hC h1
 ·unfold ic; rw [hn,hg,vJ hC h1]; exact a8 hp
def Fb {c:Bool} {x:ae×ai} {k:Option Out} {o:Out} (h:xl c x k=some o):(x.1.dK=false/\k=some o)\/∃v,c=true/\x.1 = .gw v/\o=⟨.gw v,[],x.2⟩:=by
 obtain ⟨x,M⟩:=x
 cases x<;>first
  |exact .inl ⟨rfl,h⟩
  |(cases c
    ·cases h
    ·injection h with h; exact .inr ⟨_,rfl,rfl,h.symm⟩)
def DT {c:Bool} {x:ae×ai} {k:Option Out} (h:x.1.dK=false):xl c x k=k:=by
 obtain ⟨x,M⟩:=x
 cases x<;>first|rfl|cases h
def Fc {c:Bool} {x:ae×ai} {k:Option Out} {v:Value} (hc:c=true) (h:x.1 = .gw v):xl c x k=some ⟨.gw v,[],x.2⟩:=by
 unfold xl; rw [h,hc]
def iA {C:cu} {o:bg} {r:List bg} {env:Env} {M:ai} {x:Out} (h:cE C (o::r) env M=some x) :
  (∃y,(∀t want,o.guard=some (t,want)->dr env t = .bool want)/\ic C o env M=some y/\((y.1.dK=false/\cE C r (jM env o.dst y.1) y.2=some x)\/∃v,o.lets=true/\y.1 = .gw v/\x=⟨.gw v,[],y.2⟩)) \/
  (∃t want,o.guard=some (t,want)/\(dr env t = .bool (!want)\/dr env t = .tuple [])/\cE C r (jM env o.dst (.tuple [])) M=some x):=by
 unfold cE at h
 split at h
 ·rename_i hg
  obtain ⟨y,hy,h⟩:=av h
  exact .inl ⟨y,fun t want h'=>(by rw [hg] at h'; cases h'),hy,Fb h⟩
 ·rename_i t want hg
  split at h
  ·rename_i b hb
   rcases fE h with ⟨h1,h2⟩|⟨h1,h2⟩
   ·obtain ⟨y,hy,h2⟩:=av h2
    refine .inl ⟨y,fun t' want' h'=>?_,hy,Fb h2⟩
    rw [hg] at h'
    injection h' with h'
    injection h' with e1 e2
    subst e1; subst e2
    rw [hb]
    have:b=want:=by simpa using h1
    rw [this]
   ·refine .inr ⟨t,want,hg,.inl ?_,h2⟩
    rw [hb]
    cases b<;>cases want<;>simp_all
  ·rename_i hb
   exact .inr ⟨t,want,hg,.inr hb,h⟩
  ·cases h
def j6 {C:cu} {o:bg} {r:List bg} {env:Env} {M:ai} {y:ae×ai} (hg:∀t want,o.guard=some (t,want)->dr env t = .bool want)
  (hy:ic C o env M=some y):cE C (o::r) env M=xl o.lets y (cE C r (jM env o.dst y.1) y.2):=by
 rw [cE]
 split
 ·rw [hy]; rfl
 ·rename_i t want h
  rw [hg t want h,hy]
  simp
def oI {C:cu} {o:bg} {r:List bg} {env:Env} {M:ai} {t:Nat} {want:Bool} (hg:o.guard=some (t,want))
  (hb:dr env t = .bool (!want)\/dr env t = .tuple []):cE C (o::r) env M=cE C r (jM env o.dst (.tuple [])) M:=by
 rw [cE]
 simp only [hg]
 rcases hb with hb|hb
 ·rw [hb]; cases want<;>simp
 ·rw [hb]
def lh {C C':cu} (hC:o6 C C'):∀ {ops:List bg} {env:Env} {M:ai} {x:Out},cE C ops env M=some x->cE C' ops env M=some x
 | [],_,_,_,h=>h
 |o::r,env,M,x,h=>by
  rcases iA h with ⟨y,h1,h2,h3⟩|⟨t,want,h1,h2,h3⟩
  ·rw [j6 h1 (vL hC h2)]
   rcases h3 with ⟨h3,h4⟩|⟨v,h0,h3,rfl⟩
   ·rw [DT h3]; exact lh hC h4
   ·exact Fc h0 h3
  ·rw [oI h1 h2]; exact lh hC h3
def lQ {o:Out} {k:Env->ai->Option Out} {x:Out} (h:nC o k=some x):(o.e = .normal/\k o.env o.mem=some x)\/(o.e ≠ .normal/\x=o):=by
 unfold nC at h
 split at h
 ·exact .inl ⟨by assumption,h⟩
 ·rename_i hn
  injection h with h
  exact .inr ⟨hn,h.symm⟩
def mG {o:Out} {k:Env->ai->Option Out} (h:o.e = .normal):nC o k=k o.env o.mem:=by unfold nC; rw [h]
def se {o:Out} {k:Env->ai->Option Out} (h:o.e ≠ .normal):nC o k=some o:=by
 unfold nC
 split
 ·rename_i h'; exact absurd h' h
 ·rfl
def pX {o:Out} {k k':Env->ai->Option Out} {x:Out} (hk:∀env M x,k env M=some x->k' env M=some x) (h:nC o k=some x):nC o k'=some x:=by
 rcases lQ h with ⟨h1,h2⟩|⟨h1,h2⟩
 ·rw [mG h1]; exact hk _ _ _ h2
 ·rw [se h1,h2]
def tT {f g:Env->ai->Option Out} (hfg:∀env M x,f env M=some x->g env M=some x) (live:List Nat):∀n {env M x},iter f live n env M=some x->iter g live n env M=some x
 |0,_,_,_,h=>h
 |n+1,env,M,x,h=>by
  rw [iter] at *
  obtain ⟨a,ha,h⟩:=av h
  rw [hfg _ _ _ ha]
  exact pX (fun env M x h=>tT hfg live n h) h
def p6 {f:Env->ai->Option Out} (live:List Nat):∀n {env M x},iter f live n env M=some x->iter f live (n+1) env M=some x
 |0,_,_,_,h=>by cases h
 |n+1,env,M,x,h=>by
  rw [iter] at h ⊢
  obtain ⟨a,ha,h⟩:=av h
  rw [ha]
  exact pX (fun env M x h=>p6 live n h) h
def eO {C C':cu} (hC:o6 C C'):∀(c:br) {env:Env} {M:ai} {x:Out},bV C c env M=some x->bV C' c env M=some x
 | .skip,_,_,_,h=>h
 | .exit _,_,_,_,h=>h
 | .ret,_,_,_,h=>h
 | .region ops d live,env,M,x,h=>by
  simp only [bV] at *
  obtain ⟨a,ha,h⟩:=av h
  rw [lh hC ha]; exact h
 | .seq a b,env,M,x,h=>by
  simp only [bV] at *
  obtain ⟨o,ho,h⟩:=av h
  rw [eO hC a ho]
  exact pX (fun env M x=>eO hC b) h
 | .cond c a b,env,M,x,h=>by
  simp only [bV] at *
  split
  ·rename_i t ht
   simp only [ht] at h
   rcases fE h with ⟨rfl,h⟩|⟨rfl,h⟩
   ·exact eO hC a h
   ·exact eO hC b h
  ·rename_i ht
   split at h
   ·rename_i t ht'; exact absurd ht' (ht t)
   ·cases h
 | .block id c,env,M,x,h=>by
  simp only [bV] at *
  obtain ⟨o,ho,h⟩:=av h
  rw [eO hC c ho]; exact h
 | .loop live c,env,M,x,h=>by
  simp only [bV] at *
  obtain ⟨n,hn⟩:=ov h
  exact jJ (fun n x=>p6 live n) (tT (fun env M x=>eO hC c) live n hn)
def lD (T:uF):∀n,o6 (eD T n) (eD T (n+1))
 |0,f,a,M,x,h=>by
  unfold eD at *
  split
  ·rename_i g hg; simp only [hg] at h; exact h
  ·rename_i hg; simp only [hg] at h; cases h
 |n+1,f,a,M,x,h=>by
  rw [eD] at h ⊢
  split
  ·rename_i g hg; simp only [hg] at h; exact h
  ·rename_i hg
   simp only [hg] at h
   split
   ·rename_i hf; simp only [hf] at h; cases h
   ·rename_i fn hf
    simp only [hf] at h
    split
    ·rename_i hl
     rw [if_pos hl] at h
     obtain ⟨o,ho,h⟩:=av h
     rw [eO (lD T n) _ ho]
     exact h
    ·rename_i hl; rw [if_neg hl] at h; cases h
def lC (T:uF) {n m:Nat} (h:n<=m):o6 (eD T n) (eD T m):=by
 obtain ⟨k,rfl⟩:=Nat.exists_eq_add_of_le h
 induction k with
 |zero=>exact fun _ _ _ _ h=>h
 |succ k ih=>exact fun f a M x hx=>lD T (n+k) f a M x (ih (by omega) f a M x hx)
def CD (T:uF) {env:Env} {M:ai} {o:bg} {x:ae×ai} (h:ic (af T) o env M=some x):∃n,ic (eD T n) o env M=some x:=by
 have key:∀y,bD (af T) env M o.op=some y->∃n,bD (eD T n) env M o.op=some y:=by
  intro y hy
  rcases Eg hy with h|⟨f,a,B,z,h1,h2⟩
  ·exact ⟨0,h _⟩
  ·obtain ⟨n,hn⟩:=ov h1
   exact ⟨n,h2 _ hn⟩
 rcases j7 h with ⟨hn,hi,h1⟩|⟨hn,hg,h1⟩|⟨hn,hg,hp,h1⟩<;>obtain ⟨n,h2⟩:=key _ h1
 ·exact ⟨n,by unfold ic; rw [hn,h2]; exact a8 hi⟩
 ·exact ⟨n,by unfold ic; rw [hn,hg]; exact h2⟩
 ·exact ⟨n,by unfold ic; rw [hn,hg,h2]; exact a8 hp⟩
def om (T:uF):∀ {ops:List bg} {env:Env} {M:ai} {x:Out},cE (af T) ops env M=some x->∃n,cE (eD T n) ops env M=some x
 | [],_,_,_,h=>⟨0,h⟩
 |o::r,env,M,x,h=>by
  rcases iA h with ⟨y,h1,h2,h3⟩|⟨t,want,h1,h2,h3⟩
  ·obtain ⟨n,hn⟩:=CD T h2
   rcases h3 with ⟨h3,h4⟩|⟨v,h0,h3,rfl⟩
   ·obtain ⟨m,hm⟩:=om T h4
    refine ⟨max n m,?_⟩
    rw [j6 h1 (vL (lC T (Nat.le_max_left n m)) hn),DT h3]
    exact lh (lC T (Nat.le_max_right n m)) hm
   ·exact ⟨n,by rw [j6 h1 hn]; exact Fc h0 h3⟩
  ·obtain ⟨m,hm⟩:=om T h3
   exact ⟨m,by rw [oI h1 h2]; exact hm⟩
def jc (T:uF):∀(c:br) {env:Env} {M:ai} {x:Out},bV (af T) c env M=some x->∃n,bV (eD T n) c env M=some x
 | .skip,_,_,_,h=>⟨0,h⟩
 | .exit _,_,_,_,h=>⟨0,h⟩
 | .ret,_,_,_,h=>⟨0,h⟩
 | .region ops d live,env,M,x,h=>by
  simp only [bV] at *
  obtain ⟨a,ha,h⟩:=av h
  obtain ⟨n,hn⟩:=om T ha
  exact ⟨n,by rw [hn]; exact h⟩
 | .seq a b,env,M,x,h=>by
  simp only [bV] at *
  obtain ⟨o,ho,h⟩:=av h
  obtain ⟨n,hn⟩:=jc T a ho
  rcases lQ h with ⟨h1,h2⟩|⟨h1,h2⟩
  ·obtain ⟨m,hm⟩:=jc T b h2
   refine ⟨max n m,?_⟩
   rw [eO (lC T (Nat.le_max_left n m)) a hn,aL,mG h1]
   exact eO (lC T (Nat.le_max_right n m)) b hm
  ·exact ⟨n,by rw [hn,aL,se h1,h2]⟩
 | .cond c a b,env,M,x,h=>by
  simp only [bV] at *
  split at h
  ·rename_i t ht
   rcases fE h with ⟨rfl,h⟩|⟨rfl,h⟩
   ·obtain ⟨n,hn⟩:=jc T a h; exact ⟨n,hn⟩
   ·obtain ⟨n,hn⟩:=jc T b h; exact ⟨n,hn⟩
  ·cases h
 | .block id c,env,M,x,h=>by
  simp only [bV] at *
  obtain ⟨o,ho,h⟩:=av h
  obtain ⟨n,hn⟩:=jc T c ho
  exact ⟨n,by rw [hn]; exact h⟩
 | .loop live c,env,M,x,h=>by
  simp only [bV] at *
  obtain ⟨k,hk⟩:=ov h
  have:∀k env M,iter (bV (af T) c) live k env M=some x->∃n,iter (bV (eD T n) c) live k env M=some x:=by
   intro k
   induction k with
   |zero=>intro env M h; cases h
   |succ k ih =>
    intro env M h
    rw [iter] at h
    obtain ⟨a,ha,h⟩:=av h
    obtain ⟨n,hn⟩:=jc T c ha
    rcases lQ h with ⟨h1,h2⟩|⟨h1,h2⟩
    ·obtain ⟨m,hm⟩:=ih _ _ h2
     refine ⟨max n m,?_⟩
     rw [iter,eO (lC T (Nat.le_max_left n m)) c hn,aL,mG h1]
     exact tT (fun env M x=>eO (lC T (Nat.le_max_right n m)) c) live k hm
    ·exact ⟨n,by rw [iter,hn,aL,se h1,h2]⟩
  obtain ⟨n,hn⟩:=this k env M hk
  exact ⟨n,jJ (fun n x=>p6 live n) hn⟩
def Cu (C:cu) (live:List Nat) (c:br) (env:Env) (M:ai) :
  bV C (.loop live c) env M=aK (bV C c (gI env live) M) fun o=>nC o fun e m=>bV C (.loop live c) (rN M.length m (gI e live)) (fN M.length m):=by
 apply Option.ext
 intro x
 constructor
 ·intro h
  obtain ⟨n,hn⟩:=ov (show lim (fun n=>iter (bV C c) live n env M)=some x from h)
  cases n with
  |zero=>cases hn
  |succ n =>
   rw [iter] at hn
   obtain ⟨o,ho,hn⟩:=av hn
   rw [ho,aL]
   exact pX (fun env M x hx=>jJ (fun n x=>p6 live n) hx) hn
 ·intro h
  obtain ⟨o,ho,h⟩:=av h
  rcases lQ h with ⟨h1,h2⟩|⟨h1,h2⟩
  ·obtain ⟨n,hn⟩:=ov (show lim (fun n=>iter (bV C c) live n (rN M.length o.mem (gI o.env live)) (fN M.length o.mem))=some x from h2)
   refine jJ (F:=fun n=>iter (bV C c) live n env M) (n:=n+1) (fun n x=>p6 live n) ?_
   show iter (bV C c) live (n+1) env M=some x
   rw [iter,ho,aL,mG h1]
   exact hn
  ·refine jJ (F:=fun n=>iter (bV C c) live n env M) (n:=1) (fun n x=>p6 live n) ?_
   show iter (bV C c) live 1 env M=some x
   rw [iter,ho,aL,se h1,h2]
def Cs {T:uF} {f:Nat} {fn:cL} {args:List ae} {M:ai} {x:ae×ai} (hp:T.iX f=none) (hc:T.code f=some fn) (hl:args.length=fn.nparams)
  (h:aK (bV (af T) fn.body (gd 0 args) M) (finish fn.results M.length)=some x):af T f args M=some x:=by
 obtain ⟨o,hb,hf⟩:=av h
 obtain ⟨n,hn⟩:=jc T fn.body hb
 refine jJ (n:=n+1) (fun n x h=>lD T n f args M x h) ?_
 rw [eD]
 simp only [hp,hc,if_pos hl,hn,aL]
 exact hf
def bM {T:uF} {f:Nat} {g:List ae->ai->Option (ae×ai)} {args:List ae} {M:ai} {x:ae×ai} (hp:T.iX f=some g) (hg:g args M=some x):af T f args M=some x:=by
 refine jJ (n:=0) (fun n x h=>lD T n f args M x h) ?_
 rw [eD]
 simp only [hp,hg]
end
section
open Go Go.RowKit
def bs (s:List UInt8):ByteArray:=⟨s.toArray⟩
structure J where
 f:Nat->Option Nat
 X:Nat->Nat->Prop
instance:CoeFun J (fun _=>Nat->Option Nat):=⟨J.f⟩
structure gv (j:J) (M:ai) (w:World) (b off:Nat):Prop where
 lt:b<w.heap.size
 ids:∀id,id<M.length->j id=some b->∃sz n,M[id]?=some (.tick sz n)/\off<n*sz
 nx:¬j.X b off
inductive bX (w:World) (cW:Nat->Nat->Prop):ae->Value->Prop where
 |bool (b:Bool):bX w cW (.bool b) (.bool b)
 |int (k:IntKind) (n:Int):bX w cW (.int k n) (.int k n)
 |str (s:List UInt8):bX w cW (.str s) (.string (bs s))
 |raw (v:Value) (h1:v.oneCell'=true):bX w cW (.raw v) v
 |slice (xs:List ae) (A:Option Addr) (len cap b off sz:Nat) (vs:Nat->Value) (hl:len=xs.length) (hc:len<=cap)
   (ha:xs≠[]->A=some ⟨b,off,none⟩) (hz:∀x,x∈xs->x.cells.length=sz)
   (hs:∀(i:Nat) (x:ae) (k:Nat) (c:ae),xs[i]?=some x->x.cells[k]?=some c->w.cell? ⟨b,off+(i*sz+k),none⟩=some (vs (i*sz+k))/\cW b (off+(i*sz+k)))
   (hr:∀(i:Nat) (x:ae) (k:Nat) (c:ae),xs[i]?=some x->x.cells[k]?=some c->bX w cW c (vs (i*sz+k))):bX w cW (.slice .sh xs) (.slice A len cap)
def Al (j:J) (w:World) (k n t:Nat) (x:Bool) (v:Value):Prop :=
 (j k=none/\n=0/\∃A,v = .slice A 0 0/\(x=true->A=none)) \/
 ∃b cap vs,0<n/\j k=some b/\v = .slice (some ⟨b,0,none⟩) n cap/\w.heap[b]?=some (.cells vs t (0,0))/\cap<=vs.size/\n<=cap
def Am (j:J) (w:World) (k sz n:Nat) (v:Value):Prop :=
 (j k=none/\n=0/\∃A,v = .slice A 0 0) \/
 ∃b cap vs t,j k=some b/\v = .slice (some ⟨b,0,none⟩) n cap/\w.heap[b]?=some (.cells vs t (0,0))/\cap*sz<=vs.size/\n<=cap
def vh (w:World) (cW:Nat->Nat->Prop) (x:ae) (v:Value):Prop :=
 match x with
 | .agg cs=>∃us:Array Value,v = .agg us/\cs.length=us.size/\∀(i:Nat) (c:ae) (u:Value),cs[i]?=some c->us[i]?=some u->bX w cW c u
 |x=>bX w cW x v
inductive cm (j:J) (M:ai) (w:World):ae->Value->Prop where
 |plain {x:ae} {v:Value} (h:bX w (gv j M w) x v):cm j M w x v
 |c0 (A:Option Addr):cm j M w (.slice .c0 []) (.slice A 0 0)
 |own {k:Nat} {xs:List ae} {v:Value} {sz n:Nat} (hk:M[k]?=some (.tick sz n)) (hn:xs.length<=n) (h:bX w (gv j M w) (.slice .sh xs) v)
   (ht:xs.length=n->Am j w k sz n v):cm j M w (.slice (.own k) xs) v
 |agg {cs:List ae} {vs:Array Value} (hl:cs.length=vs.size) (h:∀(i:Nat) (c:ae) (v:Value),cs[i]?=some c->vs[i]?=some v->cm j M w c v):cm j M w (.agg cs) (.agg vs)
 |tuple {cs:List ae} {vs:Array Value} (hl:cs.length=vs.size) (h:∀(i:Nat) (c:ae) (v:Value),cs[i]?=some c->vs[i]?=some v->cm j M w c v):cm j M w (.tuple cs) (.tuple vs)
 |ptr {id off b:Nat} (hid:id<M.length) (hc:∃cs,M[id]?=some (.cells cs)) (hj:j id=some b):cm j M w (.ptr id off) (.pointer (some ⟨b,off,none⟩))
 |dM {cs:List ae} {b off:Nat} {vs:Nat->Value} (h:∀(k:Nat) (c:ae),cs[k]?=some c->w.cell? ⟨b,off+k,none⟩=some (vs k)/\gv j M w b (off+k)/\bX w (gv j M w) c (vs k)) :
   cm j M w (.dM cs) (.pointer (some ⟨b,off,none⟩))
 |func {f:Nat} {caps:List ae} {vs:Array Value} (hl:caps.length=vs.size) (h:∀(i:Nat) (c:ae) (v:Value),caps[i]?=some c->vs[i]?=some v->cm j M w c v) :
   cm j M w (.func f caps) (.func (.func f) #[] vs)
 |df {id b:Nat} (hc:∃ks vs,M[id]?=some (.map ks vs)) (hj:j id=some b):cm j M w (.df id) (.map (some b))
 |dW {id b:Nat} (hc:∃s p,M[id]?=some (.gA s p)) (hj:j id=some b):cm j M w (.dW id) (.pointer (some ⟨b,0,none⟩))
 |eb {ks vs:List ae} {b:Nat} {es:Array MapEntry} {clock:Nat} (hb:b<w.heap.size) (hf:∀i,i<M.length->j i≠some b) (hx:∀off,¬j.X b off) (hw:w.heap[b]?=some (.map es clock)) (hk:ks.length=es.size) (hv:vs.length=es.size)
   (hks:∀(i:Nat) (k:ae) (e:MapEntry),ks[i]?=some k->es[i]?=some e->bX w (gv j M w) k e.key) (hvs:∀(i:Nat) (v:ae) (e:MapEntry),vs[i]?=some v->es[i]?=some e->vh w (gv j M w) v e.val) :
   cm j M w (.eb ks vs) (.map (some b))
 |bu {id ver sz lo hi:Nat} {v:Value} (h0:(∃b off c,v = .slice (some ⟨b,off,none⟩) (hi-lo) c/\hi-lo<=c)\/hi-lo=0/\∃A,v = .slice A 0 0) (hid:id<M.length) (hM:∀bx,M[id]?=some bx->bx.loose=true)
   (hv:∀sz' v' xs,M[id]?=some (.arr sz' v' xs)->ver<=v'/\(v'=ver->sz'=sz/\lo<=hi/\hi<=xs.length/\((xs=[]/\j id=none/\∃A,v = .slice A 0 0)\/∃b cap vs t,j id=some b/\v = .slice (some ⟨b,lo*sz,none⟩) (hi-lo) cap/\hi-lo<=cap/\w.heap[b]?=some (.cells vs t (0,0))/\(lo+cap)*sz<=vs.size))) :
   cm j M w (.bu id ver sz lo hi) v
 |dC {id ver i off:Nat} {v:Value} (h0:∃b o,v = .pointer (some ⟨b,o,none⟩)) (hid:id<M.length) (hM:∀bx,M[id]?=some bx->bx.loose=true)
   (hv:∀sz v' xs,M[id]?=some (.arr sz v' xs)->ver<=v'/\(v'=ver->i<xs.length/\∃b,j id=some b/\v = .pointer (some ⟨b,i*sz+off,none⟩))) :
   cm j M w (.dC id ver i off) v
 |jx {f:Nat} {fs:List ae} {vs:Array Value} (hl:fs.length=vs.size) (h:∀(i:Nat) (c:ae) (v:Value),fs[i]?=some c->vs[i]?=some v->vh w (gv j M w) c v):cm j M w (.jx f fs) (.func (.func f) vs #[])
 |cv {id t b:Nat} {v:Value} (hc:∃cs,M[id]?=some (.cells cs)) (hj:j id=some b) (hk:∃vs fr,w.heap[b]?=some (.cells vs t fr)) (hv:v = .pointer none\/v = .pointer (some ⟨b,0,none⟩)):cm j M w (.cv id t) v
 |dJ {t id off b:Nat} (hc:∃cs,M[id]?=some (.cells cs)) (hj:j id=some b):cm j M w (.dJ t id off) (.iface t (.pointer (some ⟨b,off,none⟩)))
 |du {k t n:Nat} {x:Bool} {l:List UInt8} {v:Value} (hk:M[k]?=some (.tick 1 n)) (hn:l.length<=n) (h:bX w (gv j M w) (.slice .sh (l.map jt)) v) (ht:l.length=n->Al j w k n t x v):cm j M w (.du k t x l) v
 |any (v:Value):cm j M w .any v
def RC (j:J) (M:ai) (w:World) (cs:List ae) (vs:Array Value):Prop :=
 cs.length=vs.size/\∀(i:Nat) (c:ae) (v:Value),cs[i]?=some c->vs[i]?=some v->cm j M w c v
def Holds (j:J) (M:ai) (w:World) (b:Nat):aQ->Prop
 | .cells cs=>∃vs t,w.heap[b]?=some (.cells vs t (0,0))/\RC j M w cs vs
 | .tick _ _=>True
 | .map ks vs=>∃es clock,w.heap[b]?=some (.map es clock)/\ks.length=es.size/\vs.length=es.size/\(∀(i:Nat) (k:ae) (e:MapEntry),ks[i]?=some k->es[i]?=some e->bX w (gv j M w) k e.key) /\
   ∀(i:Nat) (v:ae) (e:MapEntry),vs[i]?=some v->es[i]?=some e->cm j M w v e.val
 | .gA s pos=>w.heap[b]?=some (.stringIter (bs s) pos)
 | .arr _ _ _=>True
 | .n9=>True
structure Rel (j:J) (M:ai) (w:World):Prop where
 inj:∀i i' b,i<M.length->i'<M.length->j i=some b->j i'=some b->i=i'
 lt:∀i b,i<M.length->j i=some b->b<w.heap.size
 fix:∀i bx,M[i]?=some bx->bx.fixed=true->∃b,j i=some b/\Holds j M w b bx
 tick:∀i sz n b,M[i]?=some (.tick sz n)->j i=some b->∃vs t,w.heap[b]?=some (.cells vs t (0,0))
 arr:∀i sz ver xs,M[i]?=some (.arr sz ver xs)->(xs=[]/\j i=none)\/∃b vs t,j i=some b/\w.heap[b]?=some (.cells vs t (0,0))/\xs.length*sz<=vs.size/\(∀x,x∈xs->x.cells.length=sz) /\
  ∀(q:Nat) (x:ae) (k:Nat) (c:ae),xs[q]?=some x->x.cells[k]?=some c->∃v,vs[q*sz+k]?=some v/\bX w (gv j M w) c v
 nc:∀i b,i<M.length->j i=some b->∀off,¬j.X b off
 rD:∀b off,j.X b off->b<w.heap.size
def Rel.box {j:J} {M:ai} {w:World} (h:Rel j M w) (i:Nat) (cs:List ae) (hi:M[i]?=some (.cells cs)):∃b vs t,j i=some b/\w.heap[b]?=some (.cells vs t (0,0))/\cs.length=vs.size /\
  ∀(q:Nat) (c:ae) (v:Value),cs[q]?=some c->vs[q]?=some v->cm j M w c v:=by
 obtain ⟨b,h1,vs,t,h2,h3⟩:=h.fix i _ hi rfl
 exact ⟨b,vs,t,h1,h2,h3.1,h3.2⟩
structure Ext (j:J) (M:ai) (w:World) (j':J) (M':ai) (w':World):Prop where
 len:M.length<=M'.length
 size:w.heap.size<=w'.heap.size
 os:w'.os=w.os
 tape:w'.tape=w.tape
 output:w'.output=w.output
 X:j'.X=j.X
 fix:∀i bx,M[i]?=some bx->bx.fixed=true->j' i=j i/\∃bx',M'[i]?=some bx'/\bx'.tag=bx.tag
 tick:∀i sz n,M[i]?=some (.tick sz n)->∃n',n<=n'/\M'[i]?=some (.tick sz n') /\
  (n'=n->j' i=j i/\∀b vs t,j i=some b->w.heap[b]?=some (.cells vs t (0,0))->∃vs',w'.heap[b]?=some (.cells vs' t (0,0))/\vs'.size=vs.size)
 arr:∀i sz ver xs,M[i]?=some (.arr sz ver xs)->(∃n',M'[i]?=some (.tick sz n'))\/∃ver' xs',M'[i]?=some (.arr sz ver' xs')/\ver<=ver' /\
  (ver'=ver->j' i=j i/\xs'.length=xs.length/\∀b vs t,j i=some b->w.heap[b]?=some (.cells vs t (0,0))->∃vs',w'.heap[b]?=some (.cells vs' t (0,0))/\vs'.size=vs.size)
 tags:∀(b:Nat) (vs:Array Value) (t:TypeId) (fr:Nat×Nat),w.heap[b]?=some (.cells vs t fr)->∃vs' fr',w'.heap[b]?=some (.cells vs' t fr')/\vs'.size=vs.size
 cW:∀b off,gv j M w b off->gv j' M' w' b off/\w'.cell? ⟨b,off,none⟩=w.cell? ⟨b,off,none⟩
 mw:∀b,b<w.heap.size->(∀i,i<M.length->j i≠some b)->w'.heap[b]?=w.heap[b]?/\∀i,i<M'.length->j' i≠some b
def uw {a b:aQ} (h:b.tag=a.tag) (ha:a.fixed=true):b.fixed=true:=by
 cases a<;>cases b<;>simp [aQ.tag,aQ.fixed] at * <;> omega
def uv {b:aQ} (h:b.tag=0):∃cs,b = .cells cs:=by cases b<;>simp [aQ.tag] at h; exact ⟨_,rfl⟩
def RN {b:aQ} (h:b.tag=1):∃ks vs,b = .map ks vs:=by cases b<;>simp [aQ.tag] at h; exact ⟨_,_,rfl⟩
def Ht {b:aQ} (h:b.tag=2):∃s p,b = .gA s p:=by cases b<;>simp [aQ.tag] at h; exact ⟨_,_,rfl⟩
def bX.mono {w w':World} {cW saf':Nat->Nat->Prop} (h:∀b off,cW b off->saf' b off/\w'.cell? ⟨b,off,none⟩=w.cell? ⟨b,off,none⟩)
  {x:ae} {v:Value} (hr:bX w cW x v):bX w' saf' x v:=by
 induction hr with
 |bool b=>exact .bool b
 |int k n=>exact .int k n
 |str s=>exact .str s
 |raw v h1=>exact .raw v h1
 |slice xs A len cap b off sz vs hl hc ha hz hs _ ih =>
  refine .slice xs A len cap b off sz vs hl hc ha hz (fun i x k c hx hk=>?_) ih
  obtain ⟨h1,h2⟩:=hs i x k c hx hk
  obtain ⟨h3,h4⟩:=h _ _ h2
  exact ⟨h4.trans h1,h3⟩
def vh.mono {w w':World} {cW saf':Nat->Nat->Prop} (h:∀b off,cW b off->saf' b off/\w'.cell? ⟨b,off,none⟩=w.cell? ⟨b,off,none⟩)
  {x:ae} {v:Value} (hr:vh w cW x v):vh w' saf' x v:=by
 by_cases hag:∃cs,x = .agg cs
 ·obtain ⟨cs,rfl⟩:=hag
  obtain ⟨us,h1,h2,h3⟩:=hr
  exact ⟨us,h1,h2,fun i c u hc hu=>(h3 i c u hc hu).mono h⟩
 ·cases x<;>first|exact absurd ⟨_,rfl⟩ hag|exact bX.mono h hr
section
variable {j j' j'':J} {M M' M'':ai} {w w' w'':World}
def Al.mono {k n t:Nat} {x:Bool} {v:Value} (h:Al j w k n t x v) (hj:j' k=j k)
  (hb:∀b vs t,j k=some b->w.heap[b]?=some (.cells vs t (0,0))->∃vs',w'.heap[b]?=some (.cells vs' t (0,0))/\vs'.size=vs.size):Al j' w' k n t x v:=by
 rcases h with ⟨h1,h2,h3⟩|⟨b,cap,vs,h0,h1,h2,h3,h4,h5⟩
 ·exact .inl ⟨hj.trans h1,h2,h3⟩
 ·obtain ⟨vs',h6,h7⟩:=hb b vs t h1 h3
  exact .inr ⟨b,cap,vs',h0,hj.trans h1,h2,h6,by omega,h5⟩
def Am.mono {k sz n:Nat} {v:Value} (h:Am j w k sz n v) (hj:j' k=j k)
  (hb:∀b vs t,j k=some b->w.heap[b]?=some (.cells vs t (0,0))->∃vs',w'.heap[b]?=some (.cells vs' t (0,0))/\vs'.size=vs.size):Am j' w' k sz n v:=by
 rcases h with ⟨h1,h2,h3⟩|⟨b,cap,vs,t,h1,h2,h3,h4,h5⟩
 ·exact .inl ⟨hj.trans h1,h2,h3⟩
 ·obtain ⟨vs',h6,h7⟩:=hb b vs t h1 h3
  exact .inr ⟨b,cap,vs',t,hj.trans h1,h2,h6,by omega,h5⟩
def Ext.loose (hx:Ext j M w j' M' w') {id:Nat} (hid:id<M.length) (hM:∀bx,M[id]?=some bx->bx.loose=true):(∀bx,M'[id]?=some bx->bx.loose=true) /\
  ∀sz v' xs,M'[id]?=some (.arr sz v' xs)->∃v0 xs0,M[id]?=some (.arr sz v0 xs0)/\v0<=v' /\
   (v'=v0->j' id=j id/\xs.length=xs0.length/\∀b vs t,j id=some b->w.heap[b]?=some (.cells vs t (0,0))->∃vs',w'.heap[b]?=some (.cells vs' t (0,0))/\vs'.size=vs.size):=by
 have h0:=List.getElem?_eq_getElem hid
 have hf:=hM _ h0
 generalize M[id]=bx at h0 hf
 cases bx with
 |cells=>cases hf
 |map=>cases hf
 |gA=>cases hf
 |n9=>cases hf
 |tick sz n =>
  obtain ⟨n',h1,h2,h3⟩:=hx.tick _ _ _ h0
  refine ⟨fun bx hb=>?_,fun sz v' xs h=>?_⟩
  ·rw [h2] at hb; injection hb with hb; subst hb; rfl
  ·rw [h2] at h; cases h
 |arr sz v xs =>
  rcases hx.arr _ _ _ _ h0 with ⟨n',h2⟩|⟨v1,xs1,h2,h3,h4⟩
  ·refine ⟨fun bx hb=>?_,fun sz v' xs h=>?_⟩
   ·rw [h2] at hb; injection hb with hb; subst hb; rfl
   ·rw [h2] at h; cases h
  ·refine ⟨fun bx hb=>?_,fun sz' v' xs' h=>?_⟩
   ·rw [h2] at hb; injection hb with hb; subst hb; rfl
   ·rw [h2] at h; injection h with h; injection h with e1 e2 e3
    subst e1; subst e2; subst e3
    exact ⟨v,xs,h0,h3,h4⟩
def cm.mono (hx:Ext j M w j' M' w') {x:ae} {v:Value} (hr:cm j M w x v):cm j' M' w' x v:=by
 induction hr with
 |plain h=>exact .plain (h.mono hx.cW)
 |c0 A=>exact .c0 A
 |own hk hn h ht =>
  obtain ⟨n',h1,h2,h3⟩:=hx.tick _ _ _ hk
  refine .own h2 (by omega) (h.mono hx.cW) (fun he=>?_)
  have:n'=_:=Nat.le_antisymm (by omega) h1
  obtain ⟨h4,h5⟩:=h3 this
  subst this
  exact (ht he).mono h4 h5
 |agg hl _ ih=>exact .agg hl ih
 |tuple hl _ ih=>exact .tuple hl ih
 |ptr hid hc hj =>
  obtain ⟨cs,hc⟩:=hc
  obtain ⟨h1,bx,h2,h3⟩:=hx.fix _ _ hc rfl
  obtain ⟨cs',rfl⟩:=uv h3
  exact .ptr (Nat.lt_of_lt_of_le hid hx.len) ⟨_,h2⟩ (h1.trans hj)
 | @dM cs b off vs h =>
  refine .dM (vs:=vs) fun k c hk=>?_
  obtain ⟨h1,h2,h3⟩:=h k c hk
  obtain ⟨h4,h5⟩:=hx.cW _ _ h2
  exact ⟨h5.trans h1,h4,h3.mono hx.cW⟩
 |func hl _ ih=>exact .func hl ih
 |df hc hj =>
  obtain ⟨ks,vs,hc⟩:=hc
  obtain ⟨h1,bx,h2,h3⟩:=hx.fix _ _ hc rfl
  obtain ⟨ks',vs',rfl⟩:=RN h3
  exact .df ⟨_,_,h2⟩ (h1.trans hj)
 |dW hc hj =>
  obtain ⟨ks,vs,hc⟩:=hc
  obtain ⟨h1,bx,h2,h3⟩:=hx.fix _ _ hc rfl
  obtain ⟨ks',vs',rfl⟩:=Ht h3
  exact .dW ⟨_,_,h2⟩ (h1.trans hj)
 |eb hb hf hxx hw hk hv hks hvs =>
  obtain ⟨h1,h2⟩:=hx.mw _ hb hf
  exact .eb (Nat.lt_of_lt_of_le hb hx.size) h2 (by rw [hx.X]; exact hxx) (h1.trans hw) hk hv (fun i k e h1 h2=>(hks i k e h1 h2).mono hx.cW) (fun i k e h1 h2=>(hvs i k e h1 h2).mono hx.cW)
 |bu hs hid hM hv =>
  obtain ⟨g1,g2⟩:=hx.loose hid hM
  refine .bu hs (Nat.lt_of_lt_of_le hid hx.len) g1 fun sz v' xs h=>?_
  obtain ⟨v0,xs0,h0,h1,h2⟩:=g2 sz v' xs h
  obtain ⟨h3,h4⟩:=hv sz v0 xs0 h0
  refine ⟨by omega,fun he=>?_⟩
  obtain ⟨h5,h6,h7⟩:=h2 (by omega)
  obtain ⟨l0,l1,l2,⟨rfl,l3,l4⟩|⟨b,cap,vs,t,l3,l4,l5,l6,l7⟩⟩:=h4 (by omega)
  ·exact ⟨l0,l1,by omega,.inl ⟨List.eq_nil_of_length_eq_zero (by simpa using h6),h5.trans l3,l4⟩⟩
  obtain ⟨vs',l8,l9⟩:=h7 b vs t l3 l6
  exact ⟨l0,l1,by omega,.inr ⟨b,cap,vs',t,h5.trans l3,l4,l5,l8,by omega⟩⟩
 |dC hs hid hM hv =>
  obtain ⟨g1,g2⟩:=hx.loose hid hM
  refine .dC hs (Nat.lt_of_lt_of_le hid hx.len) g1 fun sz v' xs h=>?_
  obtain ⟨v0,xs0,h0,h1,h2⟩:=g2 sz v' xs h
  obtain ⟨h3,h4⟩:=hv sz v0 xs0 h0
  refine ⟨by omega,fun he=>?_⟩
  obtain ⟨h5,h6,h7⟩:=h2 (by omega)
  obtain ⟨l1,b,l3,l4⟩:=h4 (by omega)
  exact ⟨by omega,b,h5.trans l3,l4⟩
 |jx hl h=>exact .jx hl fun i c v hc hv=>(h i c v hc hv).mono hx.cW
 |cv hc hj hk hv =>
  obtain ⟨cs,hc⟩:=hc
  obtain ⟨h1,bx,h2,h3⟩:=hx.fix _ _ hc rfl
  obtain ⟨cs',rfl⟩:=uv h3
  obtain ⟨vs,fr,hk⟩:=hk
  obtain ⟨vs2,fr2,hk2,_⟩:=hx.tags _ _ _ _ hk
  exact .cv ⟨_,h2⟩ (h1.trans hj) ⟨vs2,fr2,hk2⟩ hv
 |dJ hc hj =>
  obtain ⟨cs,hc⟩:=hc
  obtain ⟨h1,bx,h2,h3⟩:=hx.fix _ _ hc rfl
  obtain ⟨cs',rfl⟩:=uv h3
  exact .dJ ⟨_,h2⟩ (h1.trans hj)
 |du hk hn h ht =>
  obtain ⟨n',h1,h2,h3⟩:=hx.tick _ _ _ hk
  refine .du h2 (by omega) (h.mono hx.cW) (fun he=>?_)
  have:n'=_:=Nat.le_antisymm (by omega) h1
  obtain ⟨h4,h5⟩:=h3 this
  subst this
  exact (ht he).mono h4 h5
 |any v=>exact .any v
def Holds.mono {b:Nat} {bx:aQ} (hx:Ext j M w j' M' w') (hb:w'.heap[b]?=w.heap[b]?) (h:Holds j M w b bx):Holds j' M' w' b bx:=by
 cases bx with
 |cells cs =>
  obtain ⟨vs,t,h1,h2,h3⟩:=h
  exact ⟨vs,t,hb.trans h1,h2,fun i c v hc hv=>(h3 i c v hc hv).mono hx⟩
 |tick=>trivial
 |map ks vs =>
  obtain ⟨es,clock,h1,h2,h3,h4,h5⟩:=h
  exact ⟨es,clock,hb.trans h1,h2,h3,fun i k e hk he=>(h4 i k e hk he).mono hx.cW,fun i k e hk he=>(h5 i k e hk he).mono hx⟩
 |gA s pos=>exact hb.trans h
 |arr=>trivial
 |n9=>trivial
def Holds.lt {b:Nat} {bx:aQ} (h:Holds j M w b bx) (hf:bx.fixed=true):∃o,w.heap[b]?=some o:=by
 cases bx with
 |cells cs=>obtain ⟨vs,t,h1,_⟩:=h; exact ⟨_,h1⟩
 |tick=>cases hf
 |map ks vs=>obtain ⟨es,clock,h1,_⟩:=h; exact ⟨_,h1⟩
 |gA s pos=>exact ⟨_,h⟩
 |arr=>cases hf
 |n9=>cases hf
def Ext.refl (j:J) (M:ai) (w:World):Ext j M w j M w where
 len:=Nat.le_refl _
 size:=Nat.le_refl _
 os:=rfl
 tape:=rfl
 output:=rfl
 X:=rfl
 fix:=fun i bx h _=>⟨rfl,bx,h,rfl⟩
 tick:=fun i sz n h=>⟨n,Nat.le_refl _,h,fun _=>⟨rfl,fun b vs t _ h=>⟨vs,h,rfl⟩⟩⟩
 arr:=fun i sz v xs h => .inr ⟨v,xs,h,Nat.le_refl _,fun _=>⟨rfl,rfl,fun b vs t _ h=>⟨vs,h,rfl⟩⟩⟩
 tags:=fun b vs t fr h=>⟨vs,fr,h,rfl⟩
 cW:=fun b off h=>⟨h,rfl⟩
 mw:=fun b hb h=>⟨rfl,h⟩
def Ext.trans (h:Ext j M w j' M' w') (k:Ext j' M' w' j'' M'' w''):Ext j M w j'' M'' w'' where
 len:=Nat.le_trans h.len k.len
 size:=Nat.le_trans h.size k.size
 os:=k.os.trans h.os
 tape:=k.tape.trans h.tape
 output:=k.output.trans h.output
 X:=k.X.trans h.X
 fix:=fun i bx hi hf=>by
  obtain ⟨h1,bx',h2,h3⟩:=h.fix i bx hi hf
  have hf':bx'.fixed=true:=uw h3 hf
  obtain ⟨h4,bx'',h5,h6⟩:=k.fix i bx' h2 hf'
  exact ⟨h4.trans h1,bx'',h5,h6.trans h3⟩
 tick:=fun i sz n hi=>by
  obtain ⟨n1,a1,a2,a3⟩:=h.tick i sz n hi
  obtain ⟨n2,b1,b2,b3⟩:=k.tick i sz n1 a2
  refine ⟨n2,by omega,b2,fun he=>?_⟩
  obtain ⟨c1,c2⟩:=a3 (by omega)
  obtain ⟨d1,d2⟩:=b3 (by omega)
  refine ⟨d1.trans c1,fun b vs t hb hv=>?_⟩
  obtain ⟨vs',e1,e2⟩:=c2 b vs t hb hv
  obtain ⟨vs'',f1,f2⟩:=d2 b vs' t (c1.trans hb) e1
  exact ⟨vs'',f1,by omega⟩
 arr:=fun i sz v xs hi=>by
  rcases h.arr i sz v xs hi with ⟨n1,a1⟩|⟨v1,xs1,a1,a2,a3⟩
  ·obtain ⟨n2,_,b2,_⟩:=k.tick i sz n1 a1
   exact .inl ⟨n2,b2⟩
  ·rcases k.arr i sz v1 xs1 a1 with ⟨n2,b1⟩|⟨v2,xs2,b1,b2,b3⟩
   ·exact .inl ⟨n2,b1⟩
   ·refine .inr ⟨v2,xs2,b1,by omega,fun he=>?_⟩
    obtain ⟨c1,c2,c3⟩:=a3 (by omega)
    obtain ⟨d1,d2,d3⟩:=b3 (by omega)
    refine ⟨d1.trans c1,by omega,fun b vs t hb hv=>?_⟩
    obtain ⟨vs',e1,e2⟩:=c3 b vs t hb hv
    obtain ⟨vs'',f1,f2⟩:=d3 b vs' t (c1.trans hb) e1
    exact ⟨vs'',f1,by omega⟩
 tags:=fun b vs t fr hb=>by
  obtain ⟨vs1,fr1,h1,h2⟩:=h.tags b vs t fr hb
  obtain ⟨vs2,fr2,h3,h4⟩:=k.tags b vs1 t fr1 h1
  exact ⟨vs2,fr2,h3,h4.trans h2⟩
 cW:=fun b off hs=>by
  obtain ⟨h1,h2⟩:=h.cW b off hs
  obtain ⟨h3,h4⟩:=k.cW b off h1
  exact ⟨h3,h4.trans h2⟩
 mw:=fun b hb hn=>by
  obtain ⟨h1,h2⟩:=h.mw b hb hn
  obtain ⟨h3,h4⟩:=k.mw b (Nat.lt_of_lt_of_le hb h.size) h2
  exact ⟨h3.trans h1,h4⟩
def Ext.grow (hsz:w.heap.size<=w'.heap.size) (hos:w'.os=w.os) (ht:w'.tape=w.tape) (ho:w'.output=w.output)
  (hb:∀b,b<w.heap.size->w'.heap[b]?=w.heap[b]?):Ext j M w j M w' where
 len:=Nat.le_refl _
 size:=hsz
 os:=hos
 tape:=ht
 output:=ho
 X:=rfl
 fix:=fun i bx h _=>⟨rfl,bx,h,rfl⟩
 tick:=fun i sz n h=>⟨n,Nat.le_refl _,h,fun _=>⟨rfl,fun b vs t _ hv=>by
  have hlt:b<w.heap.size:=by
   rcases Nat.lt_or_ge b w.heap.size with h|h
   ·exact h
   ·rw [Array.getElem?_eq_none h] at hv; cases hv
  exact ⟨vs,(hb b hlt).trans hv,rfl⟩⟩⟩
 arr:=fun i sz v xs h => .inr ⟨v,xs,h,Nat.le_refl _,fun _=>⟨rfl,rfl,fun b vs t _ hv=>by
  have hlt:b<w.heap.size:=by
   rcases Nat.lt_or_ge b w.heap.size with h|h
   ·exact h
   ·rw [Array.getElem?_eq_none h] at hv; cases hv
  exact ⟨vs,(hb b hlt).trans hv,rfl⟩⟩⟩
 tags:=fun b vs t fr h=>by
  have hlt:b<w.heap.size:=by
   rcases Nat.lt_or_ge b w.heap.size with h'|h'
   ·exact h'
   ·rw [Array.getElem?_eq_none h'] at h; cases h
  exact ⟨vs,fr,(hb b hlt).trans h,rfl⟩
 cW:=fun b off h=>⟨⟨Nat.lt_of_lt_of_le h.1 hsz,h.2,h.3⟩,World.cell?_of_block (w:=w) (hb b h.1)⟩
 mw:=fun b hlt h=>⟨hb b hlt,h⟩
def Rel.grow (hr:Rel j M w) (hsz:w.heap.size<=w'.heap.size) (hos:w'.os=w.os) (ht:w'.tape=w.tape) (ho:w'.output=w.output)
  (hb:∀b,b<w.heap.size->w'.heap[b]?=w.heap[b]?):Rel j M w' where
 inj:=hr.inj
 lt:=fun i b hi h=>Nat.lt_of_lt_of_le (hr.lt i b hi h) hsz
 fix:=fun i bx h hf=>by
  obtain ⟨b,h1,h2⟩:=hr.fix i bx h hf
  have hi:i<M.length:=(List.getElem?_eq_some_iff.1 h).1
  exact ⟨b,h1,h2.mono (Ext.grow hsz hos ht ho hb) (hb b (hr.lt i b hi h1))⟩
 tick:=fun i sz n b h hj=>by
  obtain ⟨vs,t,h1⟩:=hr.tick i sz n b h hj
  have hi:i<M.length:=(List.getElem?_eq_some_iff.1 h).1
  exact ⟨vs,t,(hb b (hr.lt i b hi hj)).trans h1⟩
 arr:=fun i sz v xs h=>by
  rcases hr.arr i sz v xs h with he|⟨b,vs,t,h1,h2,h3,h4,h5⟩
  ·exact .inl he
  have hi:i<M.length:=(List.getElem?_eq_some_iff.1 h).1
  refine .inr ⟨b,vs,t,h1,(hb b (hr.lt i b hi h1)).trans h2,h3,h4,fun q x k c hx hk=>?_⟩
  obtain ⟨u,h6,h7⟩:=h5 q x k c hx hk
  exact ⟨u,h6,h7.mono (Ext.grow (j:=j) (M:=M) hsz hos ht ho hb).cW⟩
 nc:=hr.nc
 rD:=fun b off h=>Nat.lt_of_lt_of_le (hr.rD b off h) hsz
end
class ew where
 g:Nat->Option (List Value)
 q:Nat->Option (Value->Prop):=fun _=>none
 u8:Nat:=0
structure kS [ew] (j:J) (M:ai) (w:World):Prop where
 g:∀b vs k v,ew.g b=some vs->vs[k]?=some v->gv j M w b k/\w.cell? ⟨b,k,none⟩=some v
 n:∀b vs,ew.g b=some vs->∃us t fr,w.heap[b]?=some (.cells us t fr)/\us.size=vs.length
 q:∀b p,ew.q b=some p->∃v,p v/\gv j M w b 0/\w.cell? ⟨b,0,none⟩=some v
def kS.cW [ew] {j j':J} {M M':ai} {w:World} (h:kS j M w) (hx:∀b off,gv j M w b off->gv j' M' w b off):kS j' M' w where
 g:=fun b vs k v hb hk=>⟨hx _ _ (h.g b vs k v hb hk).1,(h.g b vs k v hb hk).2⟩
 n:=h.n
 q:=fun b p hb=>by
  obtain ⟨v,h0,h1,h2⟩:=h.q b p hb
  exact ⟨v,h0,hx _ _ h1,h2⟩
def kS.mono [ew] {j j':J} {M M':ai} {w w':World} (h:kS j M w) (hx:Ext j M w j' M' w'):kS j' M' w' where
 g:=fun b vs k v hb hk=>by
  obtain ⟨h1,h2⟩:=h.g b vs k v hb hk
  obtain ⟨h3,h4⟩:=hx.cW _ _ h1
  exact ⟨h3,h4.trans h2⟩
 n:=fun b vs hb=>by
  obtain ⟨us,t,fr,h1,h2⟩:=h.n b vs hb
  obtain ⟨us',fr',h3,h4⟩:=hx.tags b us t fr h1
  exact ⟨us',t,fr',h3,h4.trans h2⟩
 q:=fun b p hb=>by
  obtain ⟨v,h0,h1,h2⟩:=h.q b p hb
  obtain ⟨h3,h4⟩:=hx.cW _ _ h1
  exact ⟨v,h0,h3,h4.trans h2⟩
variable [ew]
structure aU (j:J) (M:ai) (w:World) (env:Env) (a:Act):Prop where
 at':∀t,cm j M w (dr env t) (a.tmps.getD t undef)
 gl:kS j M w
def aU.mono {j j':J} {M M':ai} {w w':World} {env:Env} {a:Act} (h:aU j M w env a) (hx:Ext j M w j' M' w'):aU j' M' w' env a :=
 ⟨fun t=>(h.at' t).mono hx,h.gl.mono hx⟩
def aU.put {j:J} {M:ai} {w:World} {env:Env} {a:Act} {n:Nat} (h:aU j M w env a) (hs:a.tmps.size=n) {dst:Option Nat} (hd:∀d,dst=some d->d<n)
  {x:ae} {v:Value} (hv:cm j M w x v):aU j M w (jM env dst x) (a.put dst v):=by
 refine ⟨fun t=>?_,h.gl⟩
 cases dst with
 |none=>exact h.at' t
 |some d =>
  have hd':=hd d rfl
  simp only [jM,dr,Act.put]
  by_cases he:d=t
  ·subst he
   rw [if_pos rfl]
   simpa [Array.getD_eq_getD_getElem?,Array.getElem?_setIfInBounds_self,hs,hd'] using hv
  ·rw [if_neg he]
   have:=h.at' t
   simpa [Array.getD_eq_getD_getElem?,Array.getElem?_setIfInBounds_ne he] using this
def rf (env:Env) (live:List Nat) (t:Nat):dr (gI env live) t=if t∈live then dr env t else .any:=by
 induction live with
 |nil=>simp [gI,dr]
 |cons l r ih =>
  simp only [gI,List.map_cons,dr] at *
  by_cases h:l=t
  ·subst h; simp
  ·rw [if_neg h,ih]
   have:(t∈l::r)↔t∈r:=by simp [Ne.symm h]
   simp only [this]
def aU.jI {j:J} {M:ai} {w:World} {env:Env} {a:Act} (h:aU j M w env a) (live:List Nat):aU j M w (gI env live) a:=by
 refine ⟨fun t=>?_,h.gl⟩
 rw [rf]
 split
 ·exact h.at' t
 ·exact .any _
end
section
open Go
def Aq:Value->Option ae
 | .bool b=>some (.bool b)
 | .int k n=>some (.int k n)
 | .string s=>some (.str s.data.toList)
 | .slice none 0 0=>some (.slice .c0 [])
 | .pointer none=>some (.raw (.pointer none))
 | .nilFunc=>some (.raw .nilFunc)
 | .nilIface=>some (.raw .nilIface)
 | .map none=>some (.raw (.map none))
 |_=>none
def kB:List Value->Option (List ae)
 | []=>some []
 |v::r=>(Aq v).bind fun x=>(kB r).bind fun l=>some (x::l)
def HR:Value->Option ae
 | .agg vs=>(kB vs.toList).bind fun l=>some (.agg l)
 |v=>Aq v
def R1:Value->Option ae
 | .bool b=>some (.bool b)
 | .int k n=>some (.int k n)
 | .string s=>some (.str s.data.toList)
 | .pointer none=>some (.raw (.pointer none))
 | .nilIface=>some (.raw .nilIface)
 |_=>none
def HQ:List Value->Option (List ae)
 | []=>some []
 |v::r=>(R1 v).bind fun x=>(HQ r).bind fun l=>some (x::l)
variable [ew]
def bG:Operand->Option cM
 | .tmp t=>some (.tmp t)
 | .const v=>(HR v).bind fun x=>some (.pf x)
 | .func f=>some (.pf (.func f []))
 | .global g=>(ew.g g).bind fun vs=>(HQ vs).bind fun l=>some (.pf (.dM l))
def Jv:Operand->Option cM
 | .func f=>some (.pf (.raw (.func (.func f) ⟨[]⟩ ⟨[]⟩)))
 |x=>bG x
def pP (n:Nat):List (Nat×Operand)->Option (List (Nat×Nat×cM))
 | []=>some []
 |(i,x)::r=>(bG x).bind fun y=>(pP n r).bind fun l=>some ((i*n,n,y)::l)
def nn:List Operand->Option (List cM)
 | []=>some []
 |x::r=>(bG x).bind fun y=>(nn r).bind fun l=>some (y::l)
def ti:Option Operand->Option (Option cM)
 |none=>some none
 |some x=>(bG x).bind fun y=>some (some y)
def iP (P:Program) (t:TypeId):Option Nat:=(P.info? t).bind fun i=>some i.size
def rJ (P:Program) (t:TypeId):Option Bool:=(P.underlying t).bind fun d=>some (match d with | .struct _ | .array _ _=>true|_=>false)
def tj (P:Program) (fs:Array Field):List (Nat×Operand)->Option (List (Nat×Nat×cM))
 | []=>some []
 |(i,x)::r=>(fs[i]?).bind fun f=>(iP P f.type).bind fun n=>(bG x).bind fun y=>(tj P fs r).bind fun l=>some ((f.offset,n,y)::l)
def AH:Nat->List (Nat×Operand)->Option (List cM)
 |_,[]=>some []
 |k,(i,x)::r=>if i=k then (bG x).bind fun y=>(AH (k+1) r).bind fun l=>some (y::l) else none
def JU (P:Program) (f:Field):Option FK:=if f.name = "_" then none else match P.underlying f.type with
 |some .bool=>some .b
 |some (.int _)=>some .i
 |some .string=>some .s
 |_=>none
def uR (P:Program):Nat->List Field->Option (List FK)
 |_,[]=>some []
 |k,f::r=>if f.offset=k then (JU P f).bind fun x=>(uR P (k+1) r).bind fun l=>some (x::l) else none
def wE (P:Program) (t:TypeId):Option FK:=match P.underlying t with
 |some .bool=>some .b
 |some (.int _)=>some .i
 |some .string=>some .s
 |_=>none
def FR:BinOp->Option Fv
 | .and=>some .and | .or=>some .or | .xor=>some .xor
 | .add=>some .add | .sub=>some .sub | .mul=>some .mul | .quo=>some .quo | .rem=>some .rem
 | .eql=>some .eql | .neq=>some .neq | .lss=>some .lss | .leq=>some .leq | .gtr=>some .gtr | .geq=>some .geq
 | .shl=>some .shl | .shr=>some .shr
 |_=>none
def fX (P:Program) (f:Nat):Bool:=match P.funcs[f]? with|some fn=>fn.name != "runtime.NumGoroutine" && fn.body.isSome|none=>false
def Ju (P:Program) (own:List Nat) (type:TypeId) (c:Call):Option eT :=
 match c.callee with
 | .value (.func f)=>if fX P f then (nn c.args.toList).bind fun l=>some (if own.contains (1000000+f) then .uJ f l else if own.contains (2000000+f) then .eL f l else if own.contains (8000000+f) then .oJ f l else .call f l) else none
 | .value (.tmp t)=>(nn c.args.toList).bind fun l=>some (.oL (.tmp t) l)
 | .builtin .len=>match c.args.toList,(c.argTypes[0]?).bind P.underlying with
  | [x],some .string=>(bG x).bind fun y=>some (.M7 y)
  | [x],some (.slice _)=>(bG x).bind fun y=>some (.GG y)
  | [x],some (.map _ _)=>(bG x).bind fun y=>some (.GF y)
  |_,_=>none
 | .builtin .copy=>match c.args.toList,c.argTypes.toList with
  | [x,y],[t,t']=>match P.underlying t,P.underlying t' with
   |some (.slice e),some (.slice _)=>(iP P e).bind fun n=>(bG x).bind fun x=>(bG y).bind fun y=>if 0<n then some (.xW n x y) else none
   |_,_=>none
  |_,_=>none
 | .builtin .append=>match c.args.toList,c.argTypes.toList with
  | [x,y],[t,t']=>match P.underlying t,P.underlying t' with
   |some (.slice e),some (.int _)=>(P.info? e).bind fun i=>i.zero.bind fun z=>(kB z.cells.toList).bind fun l=>(bG x).bind fun x=>(bG y).bind fun y =>
    if l.length=i.size/\0<i.size/\0<i.bytes/\i.bytes<=2 ^ 20 then some (.pL i.size i.bytes (l.map ae.shut) x y) else none
   |some (.slice e),some .string=>(P.info? e).bind fun i=>(bG x).bind fun x=>(bG y).bind fun y =>
    if own.contains 4000000&&decide ((i.zero.map fun z=>z.cells.size)=some i.size)&&decide (i.size=1)&&decide (i.bytes=1) then some (.oj e x y) else none
   |some (.slice e),some (.slice _)=>(P.info? e).bind fun i=>(bG x).bind fun x=>(bG y).bind fun y =>
    if own.contains 4000000 then (if decide ((i.zero.map fun z=>z.cells.size)=some i.size)&&decide (i.size=1)&&decide (i.bytes=1) then some (.oh e x y) else none)
    else if decide ((i.zero.map fun z=>z.cells.size)=some i.size)&&decide (0<i.size)&&decide (0<i.bytes)&&decide (i.bytes<=2 ^ 20) then some (.append i.size i.bytes x y) else none
   |_,_=>none
  |_,_=>none
 | .builtin .clear=>match c.args.toList,c.argTypes.toList with
  | [x],[t]=>match P.underlying t with
   |some (.slice e)=>(P.info? e).bind fun i=>i.zero.bind fun z=>(kB z.cells.toList).bind fun l=>(bG x).bind fun x =>
    if l.length=i.size/\0<i.size then some (.tp i.size (l.map ae.shut) x) else none
   |_=>none
  |_,_=>none
 | .builtin .max=>match c.args.toList with|[x,y]=>(bG x).bind fun x=>(bG y).bind fun y=>some (.tZ true x y)|_=>none
 | .builtin .min=>match c.args.toList with|[x,y]=>(bG x).bind fun x=>(bG y).bind fun y=>some (.tZ false x y)|_=>none
 |_=>none
def HG (P:Program) (own:List Nat) (o:Oper):Option eT :=
 match o.op with
 | .move x=>(bG x).bind fun x=>some (.mv x)
 | .assign x=>(bG x).bind fun x =>
  match o.dst with
  |some d=>if own.contains d then match P.underlying o.type with
    |some (.slice e)=>(iP P e).bind fun n=>match x with
     | .pf (.slice .c0 [])=>some (.own n x)
     |_=>some (.mv x)
    |_=>none
   else some (.mv x)
  |none=>some (.mv x)
 | .pick c a b=>(bG c).bind fun c=>(bG a).bind fun a=>(bG b).bind fun b=>some (.pick c a b)
 | .alloc t=>(P.info? t).bind fun i=>i.zero.bind fun z=>(kB z.cells.toList).bind fun l =>
  match o.dst with
  |some d=>if own.contains (3000000+d) then some (.FM t ew.u8 l) else if own.contains (6000000+d) then (match P.underlying t,l with
    |some (.slice e),[.slice .c0 []]=>(iP P e).bind fun n=>some (.FN n)
    |_,_=>none) else some (.vi l)
  |none=>some (.vi l)
 | .box t x=>(bG x).bind fun x=>match o.dst with
  |some d=>if own.contains (3000000+d) then some (.FO t ew.u8 x) else some (.box x)
  |none=>some (.box x)
 | .build t parts=>match P.underlying t with
  |some (.struct fs)=>(P.info? t).bind fun i=>i.zero.bind fun z=>(kB z.cells.toList).bind fun l=>(tj P fs parts.toList).bind fun ps =>
   if fs.all (fun f=>(P.info? f.type).isSome) then some (.build l ps) else none
  |some (.array _ e)=>(P.info? t).bind fun i=>i.zero.bind fun z=>(kB z.cells.toList).bind fun l=>(iP P e).bind fun n=>(pP n parts.toList).bind fun ps=>some (.build l ps)
  |_=>none
 | .buildSlice t len parts=>match P.underlying t with
  |some (.slice e)=>(P.info? e).bind fun i=>(AH 0 parts.toList).bind fun l =>
   if l.length=len/\len*i.size<=2 ^ 24/\(i.zero.map fun z=>z.cells.size)=some i.size/\0<i.size then some (match o.dst with|some d=>if own.contains d then .yv i.size l else .lits i.size l|none => .lits i.size l) else none
  |_=>none
 | .load t x=>(rJ P t).bind fun g=>(iP P t).bind fun n=>(bG x).bind fun x=>some (if g then .kK n x else .iL x)
 | .store t a x=>(iP P t).bind fun n=>(bG a).bind fun a=>(bG x).bind fun x=>some (match a with
  | .tmp s=>match own.find? (fun m=>decide (1000000000<=m)&&decide (m % 1000=s)) with
   |some m => .uq (m / 1000000 % 1000) (m / 1000 % 1000) n a x
   |none => .store n a x
  |_ => .store n a x)
 | .nilCheck x=>(bG x).bind fun x=>some (.UD x)
 | .binOp op t x y _=>(bG x).bind fun x=>(bG y).bind fun y=>match P.underlying t with
  |some (.int _)|some .string=>(FR op).bind fun b=>some (.bin b x y)
  |some .bool=>match op with
   | .eql=>some (.YT false x y)
   | .neq=>some (.YT true x y)
   |_=>none
  |some (.struct fs)=>if P.stoodInHeld t then none else (uR P 0 fs.toList).bind fun ks=>match op with
   | .eql=>some (.Tt ks false x y)
   | .neq=>some (.Tt ks true x y)
   |_=>none
  |some (.array len e)=>match P.underlying e,op with
   |some (.int _),.eql=>if iP P e=some 1 then some (.Tt (List.replicate len .i) false x y) else none
   |_,_=>none
  |_=>none
 | .unOp .not _ x=>(bG x).bind fun x=>some (.not x)
 | .unOp .neg _ x=>(bG x).bind fun x=>some (.neg x)
 | .convert s d x=>(bG x).bind fun x=>match P.underlying s,P.underlying d with
  |some (.int _),some (.int k)=>some (.conv k x)
  |some .string,some .string=>some (.same x)
  |some (.slice e),some .string=>match P.underlying e with|some (.int .u8)=>some (.b2s x)|_=>none
  |some .string,some (.slice e)=>match P.underlying e with|some (.int .u8)=>some (.s2b x)|_=>none
  |_,_=>none
 | .makeFunc (.func f) first caps=>if first.isEmpty then (nn caps.toList).bind fun l=>some (.fn f l) else if caps.isEmpty then (nn first.toList).bind fun l=>some (.xQ f l) else none
 | .slice t x lo hi mx=>(bG x).bind fun x=>(ti lo).bind fun lo=>(ti hi).bind fun hi=>(ti mx).bind fun mx=>match P.underlying t with
  |some .string=>if mx.isNone then some (.ui x lo hi) else none
  |some (.slice e)=>(iP P e).bind fun n=>if 0<n/\(mx.isNone\/hi.isSome) then some (.uj n x lo hi mx) else none
  |_=>none
 | .fieldAddr s x f=>match P.underlying s with
  |some (.struct fs)=>(fs[f]?).bind fun f=>(iP P f.type).bind fun n=>(bG x).bind fun x=>if 0<n then some (.k9 f.offset x) else none
  |_=>none
 | .field s x f=>match P.underlying s with
  |some (.struct fs)=>(fs[f]?).bind fun f=>(rJ P f.type).bind fun g=>(iP P f.type).bind fun n=>(bG x).bind fun x=>some (if g then .wc f.offset n x else .wb f.offset x)
  |_=>none
 | .indexAddr t x i=>match P.underlying t with
  |some (.slice e)=>(iP P e).bind fun n=>(bG x).bind fun x=>(bG i).bind fun i=>if 0<n then some (.oO n x i) else none
  |some (.array len e)=>(iP P e).bind fun n=>(bG x).bind fun x=>(bG i).bind fun i=>if 0<n then some (.tJ len n x i) else none
  |_=>none
 | .index t x i=>match P.underlying t with
  |some .string=>(bG x).bind fun x=>(bG i).bind fun i=>some (.tN x i)
  |some (.array len e)=>if iP P e=some 1/\rJ P e=some false then (bG x).bind fun x=>(bG i).bind fun i=>some (.tM len x i) else none
  |_=>none
 | .extract x i=>(bG x).bind fun x=>some (.extract x i)
 | .call c=>Ju P own o.type c
 | .makeMap _ none=>some .mkMap
 | .lookup t x i ok=>match P.underlying t with
  |some (.map k e)=>(wE P k).bind fun fk=>(P.info? e).bind fun ie=>ie.zero.bind fun zv=>(HR zv).bind fun z=>(bG x).bind fun x=>(bG i).bind fun i=>some (.look fk z ok x i)
  |_=>none
 | .mapUpdate t m k v=>match P.underlying t with
  |some (.map kt _)=>(wE P kt).bind fun fk=>(bG m).bind fun m=>(bG k).bind fun k=>(bG v).bind fun v=>some (.cH fk m k v)
  |_=>none
 | .range t x=>match P.underlying t with
  |some .string=>(bG x).bind fun x=>some (.Hn x)
  |_=>none
 | .next it true=>(bG it).bind fun it=>some (.yA it)
 | .makeInterface t x=>(bG x).bind fun x=>match P.underlying t with
  |some (.interface _)=>none
  |some _=>some (.iface t x)
  |none=>none
 | .panic x=>(bG x).bind fun x=>some (.raise x)
 | .insert t m k v=>match P.underlying t with
  |some (.map kt _)=>(wE P kt).bind fun fk=>(bG m).bind fun m=>(bG k).bind fun k=>(Jv v).bind fun v=>some (.cH fk m k v)
  |_=>none
 | .makeSlice t (.tmp x) (.tmp y)=>match P.underlying t with
  |some (.slice e)=>(P.info? e).bind fun i=>i.zero.bind fun z=>(kB z.cells.toList).bind fun l=>(bG (.tmp x)).bind fun x' =>
   if x=y/\l.length=i.size/\0<i.size/\i.bytes<=8*i.size then some (match o.dst with|some d=>if own.contains (5000000+d) then .GM (l.map ae.shut) x' else .XN (l.map ae.shut) x'|none => .XN (l.map ae.shut) x') else none
  |_=>none
 |_=>none
structure cI where
 n:Nat
 own:List Nat:=[]
 lv:List (Nat×List Nat)
 lp:List (Nat×List Nat):=[]
def find (l:List (Nat×List Nat)) (k:Nat):List Nat:=match l with
 | []=>[]
 |(i,x)::r=>if i=k then x else find r k
def Ts (n:Nat):Option Nat->Bool
 |some d=>decide (d<n)
 |none=>true
def AF (P:Program) (A:cI) (ops:Array Oper) (grow:Bool) (o:Oper):Option bg :=
 (HG P A.own o).bind fun op =>
  if Ts A.n o.dst then
   match o.guard with
   |none=>some { dst:=o.dst,op,guard:=none,grow }
   |some (k,want)=>((ops[k]?).bind (·.dst)).bind fun t=>if t<A.n then some { dst:=o.dst,op,guard:=some (t,want),grow } else none
  else none
def kU (P:Program) (A:cI) (ops:Array Oper) (grow:List Bool):List Oper->Option (List bg)
 | []=>some []
 |o::r=>(AF P A ops (grow.headD false) o).bind fun x=>(kU P A ops grow.tail r).bind fun l=>some (x::l)
def iu:Code->Nat
 | .region id _ _=>id
 | .seq a _=>iu a
 | .block _ c=>iu c
 | .loop c=>iu c
 | .cond _ a _=>iu a
 |_=>0
def cM.fu:cM->List Nat
 | .tmp t=>[t]
 | .pf _=>[]
def ud:Option cM->List Nat
 |some x=>x.fu
 |none=>[]
def eT.fu:eT->List Nat
 | .mv x | .own _ x | .box x | .kK _ x | .iL x | .UD x | .not x | .neg x | .conv _ x | .same x | .k9 _ x | .wc _ _ x | .wb _ x | .extract x _ | .M7 x | .GG x | .b2s x | .GF x | .Hn x | .yA x | .tp _ _ x | .s2b x | .FO _ _ x | .iface _ x | .raise x | .XN _ x | .GM _ x=>x.fu
 | .pick c a b=>c.fu++(a.fu++b.fu)
 | .vi _ | .mkMap | .FM .. | .FN _=>[]
 | .build _ ps=>ps.flatMap fun p=>p.2.2.fu
 | .lits _ ps | .yv _ ps=>ps.flatMap cM.fu
 | .store _ a x | .uq _ _ _ a x=>a.fu++x.fu
 | .cH _ m k v=>m.fu++(k.fu++v.fu)
 | .bin _ x y | .look _ _ _ x y | .Tt _ _ x y | .YT _ x y | .oO _ x y | .tJ _ _ x y | .tM _ x y | .tN x y | .append _ _ x y | .oj _ x y | .oh _ x y | .tZ _ x y | .pL _ _ _ x y | .xW _ x y=>x.fu++y.fu
 | .fn _ l | .xQ _ l=>l.flatMap cM.fu
 | .ui x l h=>x.fu++(ud l++ud h)
 | .uj _ x l h m=>x.fu++(ud l++(ud h++ud m))
 | .call _ l | .uJ _ l | .eL _ l | .oJ _ l=>l.flatMap cM.fu
 | .oL f l=>f.fu++l.flatMap cM.fu
def eT.Lo:eT->Bool
 | .own .. | .yv .. | .GM .. | .pL .. | .xW .. | .FN _ | .vi _ | .FM .. | .FO .. | .oj .. | .oh .. | .box _ | .store .. | .uq .. | .call .. | .oL .. | .uJ .. | .eL .. | .oJ .. | .tp .. | .append .. | .mkMap | .cH .. | .GF _ | .Hn _ | .yA _=>true
 |_=>false
def eT.HH:eT->Bool
 | .kK .. | .iL _ | .look .. => true
 |_=>false
def bg.reads (o:bg):List Nat:=o.op.fu++(match o.guard with|some (t,_)=>[t]|none=>[])
def na (acc:List Nat):List Edge->Nat
 | []=>0
 |e::r=>if Region.binds .any e then na acc r ||| (2 ^ e.on ||| (nth acc e.on).getD 0) else na acc r
def rP:List Oper->List Nat->List Nat
 | [],acc=>acc
 |o::r,acc=>rP r (acc++[na acc o.after.toList])
def jw (ops:List Oper):List Nat:=rP ops []
def ahead (bs:List Nat) (i k:Nat):Bool:=((nth bs k).getD 0).testBit i
def meet (x y:bg):Bool :=
 (match x.dst with|some d=>y.reads.contains d||y.dst==some d|none=>false)||(match y.dst with|some d=>x.reads.contains d|none=>false)
def fenced (bs:List Nat) (l:List bg) (k:Nat):Bool:=(List.range l.length).all fun i=>match nth l i with
 |some x => !x.op.HH||(if i<k then ahead bs i k else i==k||ahead bs k i)
 |none=>true
def eT.pn:eT->Bool
 | .call .. | .oL .. => true
 |_=>false
def ordered (bs:List Nat) (i k:Nat):Bool:=i==k||(if i<k then ahead bs i k else ahead bs k i)
def alone (bs:List Nat) (l:List bg) (k:Nat):Bool:=(List.range l.length).any fun i=>match nth l i with
 |some x=>x.op.Lo && !ordered bs i k
 |none=>false
def eT.Fl:eT->Option Nat
 | .iL (.tmp z)=>some z
 | .kK _ (.tmp z)=>some z
 | .look _ _ _ (.tmp z) _=>some z
 |_=>none
def eT.ag8:eT->Bool
 | .store .. => true
 | .append .. => true
 | .oj .. | .oh .. => true
 |_=>false
def acd (l:List bg) (i k z:Nat):Bool:=(List.range k).all fun p=>decide (p<i)||match nth l p with|some x=>x.dst != some z|none=>true
def D3 (bs:List Nat) (l:List bg) (k:Nat):Bool:=(List.range l.length).all fun i=>i==k||(if i<k then (ahead bs i k||match nth l i with|some x => !x.op.Lo|none=>false) else ahead bs k i)
def Fk (bs:List Nat) (l:List bg) (k:Nat):List Nat:=(List.range k).filterMap fun i=>match nth l i with
 |some x=>if x.op.HH && !ahead bs i k then x.op.Fl else none
 |none=>none
def vy (bs:List Nat) (l:List bg) (k:Nat) (sep:List Nat):Bool:=(List.range l.length).all fun i=>match nth l i with
 |some x => !x.op.HH||i==k||(if i<k then (ahead bs i k||match x.op.Fl with|some z=>sep.contains z&&acd l i k z|none=>false) else ahead bs k i)
 |none=>true
def iI (bs:List Nat) (l:List bg):Nat->List bg->List bg
 |_,[]=>[]
 |k,x::r=>{ x with grow:=x.op.Lo && !(x.op.pn&&alone bs l k) && !fenced bs l k,pt:=x.op.pn&&alone bs l k,sep:=if x.op.ag8 && !fenced bs l k&&vy bs l k (Fk bs l k) then Fk bs l k else [],stop := !x.op.Jz||D3 bs l k }::iI bs l (k+1) r
def bg.mr (x:bg):Bool:=x.op.Lo && !x.pt
def DH:eT->Bool
 | .iL (.pf _) | .kK _ (.pf _) | .look _ _ _ (.pf _) _=>false
 |_=>true
def uS (ops:Array Oper) (l:List bg) (k:Nat):Bool:=match ops[k]?,nth l k with
 |some o,some y=>(match y.op with
  | .vi _=>(match o.op with | .alloc _=>true|_=>false)
  | .oJ .. => (match o.op with | .call c=>(match c.callee with | .value (.func _)=>true|_=>false)|_=>false)
  |_=>false)&&y.guard.isNone
 |_,_=>false
def zN (ops:Array Oper) (bs:List Nat) (l:List bg):Bool:=(List.range l.length).all fun k=>match nth l k,ops[k]? with
 |some y,some o=>o.after.toList.all (fun e => !Region.binds .any e||decide (e.on<k))&&((!y.pt||y.op.pn)&&DH y.op)&&((!(y.mr && !y.grow)||fenced bs l k)&&(y.sep.isEmpty||vy bs l k y.sep)) &&
  ((!y.lets||D3 bs l k)&&(List.range k).all fun i=>match nth l i with
   |some x=>(!meet x y||ahead bs i k)&&(!(x.mr&&y.mr)||(ahead bs i k||(uS ops l i&&uS ops l k)))
   |none=>false)
 |_,_=>false
def ub (ops:Array Oper) (l:List bg):Option (List bg) :=
 if zN ops (jw ops.toList) (iI (jw ops.toList) l 0 l) then some (iI (jw ops.toList) l 0 l) else none
def comp (P:Program) (A:cI):Code->Option br
 | .skip=>some .skip
 | .region id ops draw=>if draw then
   (kU P { A with own:=A.own.filter (1000000 <= ·) } ops [] ops.toList).bind fun l0=>(ub ops l0).bind fun l=>some (.region l true (find A.lv id))
  else (kU P A ops [] ops.toList).bind fun l=>some (.region l false (find A.lv id))
 | .seq a b=>(comp P A a).bind fun x=>(comp P A b).bind fun y=>some (.seq x y)
 | .cond c a b=>(bG c).bind fun c=>(comp P A a).bind fun x=>(comp P A b).bind fun y=>some (.cond c x y)
 | .block id c=>(comp P A c).bind fun x=>some (.block id x)
 | .loop c=>(comp P A c).bind fun x=>some (.loop (find A.lp (iu c)) x)
 | .exit id=>some (.exit id)
 | .ret=>some .ret
 |_=>none
def AG (P:Program):List ResultVar->Option (List nh)
 | []=>some []
 | .tmp t::r=>(AG P r).bind fun l=>some (.tmp t::l)
 | .cell a t::r=>(rJ P t).bind fun g=>(iP P t).bind fun n=>(AG P r).bind fun l=>some ((if g then .eW a n else .Tj a)::l)
def aG (P:Program) (A:cI) (fn:Func):Option cL :=
 match fn.body with
 |none=>none
 |some c=>if fn.name != "runtime.NumGoroutine" /\ A.n=fn.ntmps/\fn.params.size+fn.nfree<=fn.ntmps then
   (comp P A c).bind fun b=>(AG P fn.results.toList).bind fun r=>some { nparams:=fn.params.size+fn.nfree,results:=r,body:=b }
  else none
end
end Go.Abs
namespace Go.Proofs.YtdbadpnkhaepnaaGreatDoor
open Go Go.Abs
def xy:Value := .iface 135 (.agg #[.pointer (some ⟨2,76,none⟩)])
instance:ew where
 g:=fun b=>match b with
  |0=>some [xy]
  |_=>none
 u8:=5
def aa6:Func:={ name := "",origin := "",params := #[],resultTypes := #[],nfree:=0,ntmps:=0,results := #[],body:=some .skip,norace:=false,tmpNames := #[] }
noncomputable def aM:Program:={ toTables:={ goVersion := "",platform := "",initOrder := "",godebug := "",types:=Tryz.types,rt:=Tryz.progTables.rt,cutTypes := #[],globals := #[],inits := #[],main:=0 },funcs:=⟨List.replicate 300 aa6⟩ }
end Go.Proofs.YtdbadpnkhaepnaaGreatDoor
namespace Go.Proofs.YtdbadpnkhaepnaaGreatDoor
section
open Go Go.Abs Go.ChangeShapes Go.WideShapes Go.RowKit
def G8:ownKnob Tryz.prog.godebug=none:=by kernel_rfl
abbrev MW:List (String×DataW Unit):=[("errors.errorType",Rows.laid_errors_errorType)]
def GB:J:=⟨fun _=>none,fun _ _=>False⟩
def ajg (W:World):Rel GB [] W where
 inj:=fun _ _ _ h=>by cases h
 lt:=fun _ _ h=>by cases h
 fix:=fun _ _ h=>by cases h
 tick:=fun _ _ _ _ h=>by cases h
 arr:=fun _ _ _ _ h=>by cases h
 nc:=fun _ _ h=>by cases h
 rD:=fun _ _ h=>h.elim
def Er {w:World} {b off:Nat} {v:Value} (h:w.cell? ⟨b,off,none⟩=some v):b<w.heap.size:=by
 rcases Nat.lt_or_ge b w.heap.size with hb|hb
 ·exact hb
 ·simp [World.cell?,Array.getElem?_eq_none hb] at h
def XY:((List.range Tryz.prog.types.size).filter fun t=>Tryz.prog.rowNamed t [101,114,114,111,114])=[76]:=by kernel_rfl
def ya {W:World} (hL:laidMetH Tryz.prog MW W) (hsh:W.ShapedOpen Tryz.prog):kS GB [] W:=by
 have h':laidMet Tryz.prog [] W/\handlesMet Tryz.prog MW W:=hL
 obtain ⟨name,u,ty,e1,e2,e3,e4,e5⟩:=h'.2 _ (List.mem_singleton.2 rfl)
 have en:name=[101,114,114,111,114]:=(Option.some.inj e1).symm
 subst en
 obtain rfl:=Option.some.inj ((show (Tryz.prog.cutTypes.find? (·.1 == "internal/reflectlite.rtype")).map (·.2)=some 135 by kernel_rfl).symm.trans e2)
 have hm:ty∈(List.range Tryz.prog.types.size).filter fun t=>Tryz.prog.rowNamed t [101,114,114,111,114]:=List.mem_filter.2 ⟨List.mem_range.2 e3,e4⟩
 rw [XY] at hm
 obtain rfl:=List.mem_singleton.1 hm
 rw [show typeHandle Tryz.prog 76 = .pointer (some ⟨2,76,none⟩) by kernel_rfl] at e5
 have hc:W.cell? ⟨0,0,none⟩=some xy:=by simpa [xy] using World.var?_cell (show Tryz.prog.globalNamed "errors.errorType" = some 0 by kernel_rfl) e5 0
 obtain ⟨⟨zero,t'⟩,hz,he⟩:=Option.map_eq_some_iff.1 (show (((begin Tryz.prog (fun _ _=>0) default).world.heap[0]?).bind Obj.row?).map (fun x=>x.1.size)=some 1 by kernel_rfl)
 obtain ⟨cs,h1,h2,_⟩:=hsh.1 0 zero t' (of_decide_eq_true (by kernel_rfl)) hz
 refine ⟨fun b vs k v hb hk=>?_,fun b vs hb=>?_,fun b p hb=>by cases hb⟩
 ·match b,hb with
  |0,hb =>
   cases hb
   match k,hk with
   |0,hk=>cases hk; exact ⟨⟨Er hc,fun id hid=>by simp at hid,fun h=>h⟩,hc⟩
 ·match b,hb with
  |0,hb=>cases hb; exact ⟨cs,_,_,h1,h2.trans he⟩
noncomputable def dz (os:Os):World :=
 let w0:=World.holding Tryz.prog os ⟨#[],#[],[]⟩
 { w0 with heap:=w0.heap.modify 0 fun
   | .cells _ t frozen => .cells #[xy] t frozen
   |o=>o }
def nI (os:Os) (args:Array Value):laidMetH Tryz.prog MW ((dz os).forCall (fun _ _=>0) ⟨#[],args,[]⟩).memory :=
 laidMetH_of_parts (laidMet_nil _ _) (by kernel_rfl)
end
end Go.Proofs.YtdbadpnkhaepnaaGreatDoor
namespace Go.Abs
section
open Go
inductive K where
 |seq (c:br)
 |block (id:Nat)
 |loop (live:List Nat) (n:Nat) (c:br)
noncomputable def kr (C:cu) (fn:List nh) (base:Nat):List K->Out->Option (ae×ai)
 | [],o=>finish fn base o
 | .seq c::k,o=>aK (nC o (bV C c)) (kr C fn base k)
 | .block id::k,o=>kr C fn base k (pw id o)
 | .loop live n c::k,o=>aK (nC o fun e m=>bV C (.loop live c) (rN n m (gI e live)) (fN n m)) (kr C fn base k)
noncomputable def cT (C:cu) (fn:List nh) (base:Nat) (k:List K) (c:br) (env:Env) (M:ai):Option (ae×ai):=aK (bV C c env M) (kr C fn base k)
noncomputable def cR (C:cu) (fn:List nh) (base:Nat) (k:List K) (live:List Nat) (ops:List bg) (env:Env) (M:ai):Option (ae×ai) :=
 aK (cE C ops env M) fun o=>kr C fn base k (o.jI live)
noncomputable def gz (C:cu) (fn:List nh) (base:Nat) (k:List K) (live:List Nat) (c:Bool) (dst:Option Nat) (r:List bg) (env:Env) (y:Option (ae×ai)):Option (ae×ai) :=
 aK y fun x=>aK (xl c x (cE C r (jM env dst x.1) x.2)) fun o=>kr C fn base k (o.jI live)
noncomputable def gK (C:cu) (fn:List nh) (base:Nat) (k:List K) (live:List Nat) (g:ae) (want:Bool) (o:bg) (r:List bg) (env:Env) (M:ai):Option (ae×ai) :=
 match g with
 | .bool b=>vt (b==want) (gz C fn base k live o.lets o.dst r env (ic C o env M)) (cR C fn base k live r (jM env o.dst (.tuple [])) M)
 | .tuple []=>cR C fn base k live r (jM env o.dst (.tuple [])) M
 |_=>none
noncomputable def bR (C:cu) (fn:List nh) (base:Nat) (k:List K) (v:ae) (x y:br) (env:Env) (M:ai):Option (ae×ai) :=
 match v with
 | .bool t=>vt t (cT C fn base k x env M) (cT C fn base k y env M)
 |_=>none
def jo {α β γ:Type} (x:Option α) (f:α->Option β) (g:β->Option γ):aK (aK x f) g=aK x fun a=>aK (f a) g:=by cases x<;>rfl
section
variable (C:cu) (fn:List nh) (base:Nat) (k:List K) (env:Env) (M:ai)
def JO:cT C fn base k .skip env M=kr C fn base k ⟨.normal,env,M⟩:=rfl
def JN (id:Nat):cT C fn base k (.exit id) env M=kr C fn base k ⟨.exit id,env,M⟩:=rfl
def PW:cT C fn base k .ret env M=kr C fn base k ⟨.ret,env,M⟩:=rfl
def PX (a b:br):cT C fn base k (.seq a b) env M=cT C fn base (.seq b::k) a env M:=by
 unfold cT
 rw [bV,jo]
 rfl
def Gk (id:Nat) (c:br):cT C fn base k (.block id c) env M=cT C fn base (.block id::k) c env M:=by
 unfold cT
 rw [bV,jo]
 rfl
def JM (c:cM) (x y:br):cT C fn base k (.cond c x y) env M=bR C fn base k (c.ev env) x y env M:=by
 unfold cT bR
 rw [bV]
 cases c.ev env<;>simp [cT]
def C9 (ops:List bg) (d:Bool) (live:List Nat):cT C fn base k (.region ops d live) env M=cR C fn base k live ops env M:=by
 unfold cT cR
 rw [bV,jo]
 rfl
def aE (live:List Nat) (c:br):cT C fn base k (.loop live c) env M=cT C fn base (.loop live M.length c::k) c (gI env live) M:=by
 unfold cT
 rw [Cu,jo]
 rfl
def NY (live:List Nat):cR C fn base k live [] env M=kr C fn base k ⟨.normal,gI env live,M⟩:=rfl
def G6 (live:List Nat) (d:Option Nat) (op:eT) (g m:Bool) (s:List Nat) (st:Bool) (r:List bg) :
  cR C fn base k live (⟨d,op,none,g,m,s,st⟩::r) env M=gz C fn base k live (bg.lets ⟨d,op,none,g,m,s,st⟩) d r env (ic C ⟨d,op,none,g,m,s,st⟩ env M):=by
 unfold cR gz
 rw [cE,jo]
def G7 (live:List Nat) (d:Option Nat) (op:eT) (t:Nat) (w g m:Bool) (s:List Nat) (st:Bool) (r:List bg) :
  cR C fn base k live (⟨d,op,some (t,w),g,m,s,st⟩::r) env M=gK C fn base k live (dr env t) w ⟨d,op,some (t,w),g,m,s,st⟩ r env M:=by
 unfold cR gK
 rw [cE]
 simp only
 generalize dr env t=v
 split
 ·rw [GQ,jo]; rfl
 ·rfl
 ·rename_i h1 h2
  first
   |rfl
   |(split
     ·rename_i b; exact absurd rfl (h1 b)
     ·exact absurd rfl h2
     ·rfl)
def Nz (live:List Nat) (c:Bool) (d:Option Nat) (r:List bg) (v:ae) (M':ai) (hv:v.dK=false):gz C fn base k live c d r env (some (v,M'))=cR C fn base k live r (jM env d v) M':=by
 unfold gz
 rw [aL,DT hv]; rfl
def Rb (live:List Nat) (d:Option Nat) (r:List bg) (v:Value) (M':ai):gz C fn base k live true d r env (some (.gw v,M'))=kr C fn base k ⟨.gw v,[],M'⟩:=rfl
def GI (d g f:_) (a m s1 s:_):bg.lets ⟨d,.call f a,g,m,s1,s,true⟩=true:=rfl
def Dz (d g f:_) (a m s1 s:_):bg.lets ⟨d,.oL f a,g,m,s1,s,true⟩=true:=rfl
def Dx (d g f:_) (a m s1 s:_):bg.lets ⟨d,.uJ f a,g,m,s1,s,true⟩=true:=rfl
def Dy (d g f:_) (a m s1 s:_):bg.lets ⟨d,.eL f a,g,m,s1,s,true⟩=true:=rfl
def DA (d g f:_) (m s1 s:_):bg.lets ⟨d,.raise f,g,m,s1,s,true⟩=true:=rfl
def aba (live:List Nat) (o:bg) (r:List bg):gK C fn base k live (.bool true) true o r env M=gz C fn base k live o.lets o.dst r env (ic C o env M):=rfl
def aa7 (live:List Nat) (o:bg) (r:List bg):gK C fn base k live (.bool false) false o r env M=gz C fn base k live o.lets o.dst r env (ic C o env M):=rfl
def aa9 (live:List Nat) (o:bg) (r:List bg):gK C fn base k live (.bool true) false o r env M=cR C fn base k live r (jM env o.dst (.tuple [])) M:=rfl
def aa8 (live:List Nat) (o:bg) (r:List bg):gK C fn base k live (.bool false) true o r env M=cR C fn base k live r (jM env o.dst (.tuple [])) M:=rfl
def abb (live:List Nat) (w:Bool) (o:bg) (r:List bg):gK C fn base k live (.tuple []) w o r env M=cR C fn base k live r (jM env o.dst (.tuple [])) M:=rfl
def P7 (x y:br):bR C fn base k (.bool true) x y env M=cT C fn base k x env M:=rfl
def P6 (x y:br):bR C fn base k (.bool false) x y env M=cT C fn base k y env M:=rfl
def WW (c:br):kr C fn base (.seq c::k) ⟨.normal,env,M⟩=cT C fn base k c env M:=rfl
def Bv (c:br) (i:Nat):kr C fn base (.seq c::k) ⟨.exit i,env,M⟩=kr C fn base k ⟨.exit i,env,M⟩:=rfl
def Dm (c:br):kr C fn base (.seq c::k) ⟨.ret,env,M⟩=kr C fn base k ⟨.ret,env,M⟩:=rfl
def Dl (c:br) (v:Value):kr C fn base (.seq c::k) ⟨.gw v,env,M⟩=kr C fn base k ⟨.gw v,env,M⟩:=rfl
def zD (id:Nat) (v:Value):kr C fn base (.block id::k) ⟨.gw v,env,M⟩=kr C fn base k ⟨.gw v,env,M⟩:=rfl
def Bt (live:List Nat) (n:Nat) (c:br) (v:Value):kr C fn base (.loop live n c::k) ⟨.gw v,env,M⟩=kr C fn base k ⟨.gw v,env,M⟩:=rfl
def MV (id:Nat):kr C fn base (.block id::k) ⟨.normal,env,M⟩=kr C fn base k ⟨.normal,env,M⟩:=rfl
def xF (id i:Nat):kr C fn base (.block id::k) ⟨.exit i,env,M⟩=if i=id then kr C fn base k ⟨.normal,env,M⟩ else kr C fn base k ⟨.exit i,env,M⟩:=by
 rw [kr]; simp only [pw]; split<;>rfl
def zE (id:Nat):kr C fn base (.block id::k) ⟨.ret,env,M⟩=kr C fn base k ⟨.ret,env,M⟩:=rfl
def Qg (live:List Nat) (n:Nat) (c:br):kr C fn base (.loop live n c::k) ⟨.normal,env,M⟩=cT C fn base k (.loop live c) (rN n M (gI env live)) (fN n M):=rfl
def zF (live:List Nat) (n:Nat) (c:br) (i:Nat):kr C fn base (.loop live n c::k) ⟨.exit i,env,M⟩=kr C fn base k ⟨.exit i,env,M⟩:=rfl
def Bu (live:List Nat) (n:Nat) (c:br):kr C fn base (.loop live n c::k) ⟨.ret,env,M⟩=kr C fn base k ⟨.ret,env,M⟩:=rfl
def WV (o:Out):kr C fn base [] o=finish fn base o:=rfl
end
def lO {q body:br} (h:q=body) (C:cu) (fn:List nh) (base:Nat) (k:List K) (env:Env) (M:ai):cT C fn base k q env M=cT C fn base k body env M:=by rw [h]
def aq {T:uF} {f:Nat} {fn:cL} {args:List ae} {M:ai} {x:ae×ai} (hp:T.iX f=none) (hc:T.code f=some fn) (hl:args.length=fn.nparams)
  (h:cT (af T) fn.results M.length [] fn.body (gd 0 args) M=some x):af T f args M=some x :=
 Cs hp hc hl (by
  unfold cT at h
  obtain ⟨o,h1,h2⟩:=av h
  rw [h1]; exact h2)
def br.size:br->Nat
 | .seq a b=>a.size+b.size+1
 | .cond _ a b=>a.size+b.size+1
 | .block _ a=>a.size+1
 | .loop _ a=>a.size+1
 | .region .. => 1
 | .skip=>1
 | .exit _=>1
 | .ret=>1
def br.mB:br->List br
 | .seq a b => .seq a b::(a.mB++b.mB)
 | .cond c a b => .cond c a b::(a.mB++b.mB)
 | .block i a => .block i a::a.mB
 | .loop l a => .loop l a::a.mB
 |c=>[c]
def sub (c:br) (i:Nat):br:=(c.mB[i]?).getD .skip
def ref (r:br) (i:Nat):br->br
 | .skip => .skip
 | .exit n => .exit n
 | .ret => .ret
 | .region .. => sub r i
 | .seq .. => sub r i
 | .cond .. => sub r i
 | .block .. => sub r i
 | .loop .. => sub r i
def vk (r:br) (i:Nat):br->br
 | .region a b c => .region a b c
 | .skip => .skip
 | .exit n => .exit n
 | .ret => .ret
 | .seq .. => sub r i
 | .cond .. => sub r i
 | .block .. => sub r i
 | .loop .. => sub r i
abbrev Hd (q b:br):Prop:=∀(C:cu) (fn:List nh) (base:Nat) (k:List K) (env:Env) (M:ai),cT C fn base k q env M=cT C fn base k b env M
def xv (e:Prop):br->Prop
 | .region .. => True
 | .skip | .exit _ | .ret=>True
 | .seq .. => e
 | .cond .. => e
 | .block .. => e
 | .loop .. => e
def eqs (r:br):Nat->br->Prop
 |i,.seq a b=>Hd (sub r i) (.seq (vk r (i+1) a) (ref r (i+1+a.size) b))/\(xv (eqs r (i+1) a) a/\eqs r (i+1+a.size) b)
 |i,.cond c a b=>Hd (sub r i) (.cond c (ref r (i+1) a) (ref r (i+1+a.size) b))/\(eqs r (i+1) a/\eqs r (i+1+a.size) b)
 |i,.block n a=>Hd (sub r i) (.block n (ref r (i+1) a))/\eqs r (i+1) a
 |i,.loop n a=>Hd (sub r i) (.loop n (ref r (i+1) a))/\eqs r (i+1) a
 |i,.region a b c=>Hd (sub r i) (.region a b c)
 |_,.skip=>True
 |_,.exit _=>True
 |_,.ret=>True
def jP:∀c:br,c.mB.length=c.size
 | .seq a b=>by simp [br.mB,br.size,jP a,jP b]
 | .cond _ a b=>by simp [br.mB,br.size,jP a,jP b]
 | .block _ a=>by simp [br.mB,br.size,jP a]
 | .loop _ a=>by simp [br.mB,br.size,jP a]
 | .region .. | .skip | .exit _ | .ret=>by simp [br.mB,br.size]
def YA (c:br):c.mB[0]?=some c:=by cases c<;>simp [br.mB]
def At (r:br) (i:Nat) (c:br):Prop:=∀j,j<c.size->r.mB[i+j]?=c.mB[j]?
def size_pos (c:br):0<c.size:=by cases c<;>simp [br.size]
def At.sub {r c:br} {i:Nat} (h:At r i c):sub r i=c:=by
 have:=h 0 (size_pos c)
 rw [Nat.add_zero,YA] at this
 simp [Abs.sub,this]
def At.ref {r c:br} {i:Nat} (h:At r i c):ref r i c=c:=by
 cases c<;>first|rfl|exact h.sub
def At.vk {r c:br} {i:Nat} (h:At r i c):vk r i c=c:=by
 cases c<;>first|rfl|exact h.sub
def PR {e:Prop} {c:br} (h:e):xv e c:=by
 cases c<;>first|trivial|exact h
def At.two {r a b x:br} {i:Nat} (h:At r i x) (hx:x.mB=x::(a.mB++b.mB)) (hs:x.size=a.size+b.size+1):At r (i+1) a/\At r (i+1+a.size) b:=by
 refine ⟨fun j hj=>?_,fun j hj=>?_⟩
 ·have:=h (j+1) (by omega)
  rw [hx,List.getElem?_cons_succ,List.getElem?_append_left (by rw [jP]; exact hj)] at this
  rw [<-this]; congr 1; omega
 ·have:=h (a.size+j+1) (by omega)
  rw [hx,List.getElem?_cons_succ,List.getElem?_append_right (by rw [jP]; omega),jP] at this
  rw [show a.size+j-a.size=j by omega] at this
  rw [<-this]; congr 1; omega
def At.one {r a x:br} {i:Nat} (h:At r i x) (hx:x.mB=x::a.mB) (hs:x.size=a.size+1):At r (i+1) a:=by
 intro j hj
 have:=h (j+1) (by omega)
 rw [hx,List.getElem?_cons_succ] at this
 rw [<-this]; congr 1; omega
def Bi {q b:br} (h:q=b):Hd q b:=lO h
def aI (r:br):∀(c:br) (i:Nat),At r i c->eqs r i c
 | .seq a b,i,h=>by
  obtain ⟨h1,h2⟩:=h.two (a:=a) (b:=b) rfl rfl
  exact ⟨Bi (by rw [h.sub,h1.vk,h2.ref]),PR (aI r a _ h1),aI r b _ h2⟩
 | .cond c a b,i,h=>by
  obtain ⟨h1,h2⟩:=h.two (a:=a) (b:=b) rfl rfl
  exact ⟨Bi (by rw [h.sub,h1.ref,h2.ref]),aI r a _ h1,aI r b _ h2⟩
 | .block n a,i,h=>by
  have h1:=h.one (a:=a) rfl rfl
  exact ⟨Bi (by rw [h.sub,h1.ref]),aI r a _ h1⟩
 | .loop n a,i,h=>by
  have h1:=h.one (a:=a) rfl rfl
  exact ⟨Bi (by rw [h.sub,h1.ref]),aI r a _ h1⟩
 | .region ..,_,h=>Bi h.sub
 | .skip,_,_=>trivial
 | .exit _,_,_=>trivial
 | .ret,_,_=>trivial
def bn (r:br):At r 0 r:=fun j _=>by rw [Nat.zero_add]
def vW [ew] (P:Program) (A:cI):Code->Option br
 | .skip=>some .skip
 | .region id ops draw=>if draw then
   (kU P { A with own:=A.own.filter (1000000 <= ·) } ops [] ops.toList).bind fun l=>some (.region (iI (jw ops.toList) l 0 l) true (find A.lv id))
  else (kU P A ops [] ops.toList).bind fun l=>some (.region l false (find A.lv id))
 | .seq a b=>(vW P A a).bind fun x=>(vW P A b).bind fun y=>some (.seq x y)
 | .cond c a b=>(bG c).bind fun c=>(vW P A a).bind fun x=>(vW P A b).bind fun y=>some (.cond c x y)
 | .block id c=>(vW P A c).bind fun x=>some (.block id x)
 | .loop c=>(vW P A c).bind fun x=>some (.loop (find A.lp (iu c)) x)
 | .exit id=>some (.exit id)
 | .ret=>some .ret
 |_=>none
def aaP [ew] (P:Program) (A:cI) (fn:Func):Option br:=match fn.body with
 |some c=>vW P A c
 |none=>none
abbrev Cv [ew] (P:Program) (A:cI) (f:Func):={ g:br // aaP P A f=some g }
def cU {o:Option cL} {n:Nat} {r:List nh} {c:br} (h:o=some (cL.mk n r c)):o=some (cL.mk n r (sub c 0)):=by
 rw [h,(bn c).sub]
set_option linter.defProp false in
def cX:=And.intro @eqs.eq_1 (And.intro @eqs.eq_2 (And.intro @eqs.eq_3 (And.intro @eqs.eq_4 (And.intro @eqs.eq_5 (And.intro @eqs.eq_6 (And.intro @eqs.eq_7 (And.intro @eqs.eq_8 (And.intro @ref.eq_1 (And.intro @ref.eq_2 (And.intro @ref.eq_3 (And.intro @ref.eq_4 (And.intro @ref.eq_5 (And.intro @ref.eq_6 (And.intro @ref.eq_7 (And.intro @ref.eq_8 (And.intro @vk.eq_1 (And.intro @vk.eq_2 (And.intro @vk.eq_3 (And.intro @vk.eq_4 (And.intro @vk.eq_5 (And.intro @vk.eq_6 (And.intro @vk.eq_7 (And.intro @vk.eq_8 (And.intro @xv.eq_1 (And.intro @xv.eq_2 (And.intro @xv.eq_3 (And.intro @xv.eq_4 (And.intro @xv.eq_5 (And.intro @xv.eq_6 (And.intro @xv.eq_7 (And.intro @xv.eq_8 (And.intro @br.size.eq_1 (And.intro @br.size.eq_2 (And.intro @br.size.eq_3 (And.intro @br.size.eq_4 (And.intro @br.size.eq_5 (And.intro @br.size.eq_6 (And.intro @br.size.eq_7 (And.intro @br.size.eq_8 (And.intro @and_true (@true_and)))))))))))))))))))))))))))))))))))))))))
end
end Go.Abs
set_option linter.defProp false
set_option maxRecDepth 100000
namespace Go.Proofs.YtdbadpnkhaepnaaGreatDoor
open Go Go.Abs
def IT:cI:={ n:=9,own:=[],lv:=[(0,[0]),(1,[0,5]),(2,[2]),(3,[2])],lp:=[] }
def Mo:Cv aM IT Tryz.f161:=by apply Subtype.mk; cbv
def Z4:=Mo.1
def KD:=cL.mk 1 [.tmp 2] (sub Z4 0)
def ac4:aG Tryz.prog IT Tryz.f161=some KD:=cU (by kernel_rfl)
def Zb:=by
 have h:=aI Z4 Mo.1 0 (bn _)
 simp only [Mo,cX,simprocAttr] at h
 exact h
def IV:cI:={ n:=15,own:=[],lv:=[(0,[0,1]),(1,[4,5])],lp:=[] }
def Mq:Cv aM IV Tryz.f163:=by apply Subtype.mk; cbv
def Z6:=Mq.1
def KF:=cL.mk 2 [.tmp 4,.tmp 5] (sub Z6 0)
def ac6:aG Tryz.prog IV Tryz.f163=some KF:=cU (by kernel_rfl)
def aeO:=by
 have h:=aI Z6 Mq.1 0 (bn _)
 simp only [Mq,cX,simprocAttr] at h
 exact h
def Ie:cI:={ n:=25,own:=[],lv:=[(0,[0,1,4]),(1,[0,4,6,7]),(2,[0,4,6,15]),(3,[4,5]),(4,[4,5])],lp:=[] }
def LR:Cv aM Ie Tryz.f120:=by apply Subtype.mk; cbv
def ZH:=LR.1
def Kb:=cL.mk 2 [.eW 4 6,.tmp 5] (sub ZH 0)
def acz:aG Tryz.prog Ie Tryz.f120=some Kb:=cU (by kernel_rfl)
def T0:=by
 have h:=aI ZH LR.1 0 (bn _)
 simp only [LR,cX,simprocAttr] at h
 exact h
def Ii:cI:={ n:=24,own:=[],lv:=[(0,[0,1,4]),(1,[4,6,7]),(2,[4,5]),(3,[4,6,15]),(4,[4,5]),(5,[4,6,19]),(6,[4,5])],lp:=[] }
def LV:Cv aM Ii Tryz.f123:=by apply Subtype.mk; cbv
def ZK:=LV.1
def Ke:=cL.mk 2 [.eW 4 6,.tmp 5] (sub ZK 0)
def acC:aG Tryz.prog Ii Tryz.f123=some Ke:=cU (by kernel_rfl)
def O3:=by
 have h:=aI ZK LV.1 0 (bn _)
 simp only [LV,cX,simprocAttr] at h
 exact h
def Cw:cI:={ n:=31,own:=[],lv:=[(0,[0]),(1,[0,19]),(2,[2]),(3,[21]),(4,[21,22,23]),(5,[4,21]),(6,[21,30]),(7,[2]),(8,[2])],lp:=[(4,[21])] }
def LW:Cv aM Cw Tryz.f124:=by apply Subtype.mk; cbv
def Ui:=LW.1
def x6:=cL.mk 1 [.tmp 2] (sub Ui 0)
def acD:aG Tryz.prog Cw Tryz.f124=some x6:=cU (by kernel_rfl)
abbrev EP:=sub Ui 15
def oW:=by
 have h:=aI Ui LW.1 0 (bn _)
 simp only [LW,cX,simprocAttr] at h
 exact h
def I0:cI:={ n:=49,own:=[],lv:=[(0,[0,1,2]),(1,[0,1,2,8]),(2,[0,1,2,8,9,10]),(3,[0,1,2,8,9,10,17]),(4,[0,1,2,8,9,10,11]),(5,[0,1,2,8,9,10,11,31]),(6,[0,1,2,8,9,10]),(7,[0,1,2,8,9,10]),(8,[6,7])],lp:=[(3,[0,1,2,8,9,10])] }
def Mv:Cv aM I0 Tryz.f172:=by apply Subtype.mk; cbv
def Us:=Mv.1
def KJ:=cL.mk 3 [.tmp 6,.tmp 7] (sub Us 0)
def adb:aG Tryz.prog I0 Tryz.f172=some KJ:=cU (by kernel_rfl)
abbrev Qy:=sub Us 9
def Ag:=by
 have h:=aI Us Mv.1 0 (bn _)
 simp only [Mv,cX,simprocAttr] at h
 exact h
def I4:cI:={ n:=9,own:=[],lv:=[(0,[1,2]),(1,[4])],lp:=[] }
def Mw:Cv aM I4 Tryz.f173:=by apply Subtype.mk; cbv
def Z9:=Mw.1
def KK:=cL.mk 2 [.tmp 4] (sub Z9 0)
def ade:aG Tryz.prog I4 Tryz.f173=some KK:=cU (by kernel_rfl)
def aeQ:=by
 have h:=aI Z9 Mw.1 0 (bn _)
 simp only [Mw,cX,simprocAttr] at h
 exact h
def I5:cI:={ n:=8,own:=[],lv:=[(0,[0,1]),(1,[4])],lp:=[] }
def Mx:Cv aM I5 Tryz.f174:=by apply Subtype.mk; cbv
def aaa:=Mx.1
def KL:=cL.mk 2 [.tmp 4] (sub aaa 0)
def adf:aG Tryz.prog I5 Tryz.f174=some KL:=cU (by kernel_rfl)
def aeR:=by
 have h:=aI aaa Mx.1 0 (bn _)
 simp only [Mx,cX,simprocAttr] at h
 exact h
def Ij:cI:={ n:=12,own:=[],lv:=[(0,[1,2]),(1,[4,5])],lp:=[] }
def LX:Cv aM Ij Tryz.f125:=by apply Subtype.mk; cbv
def ZL:=LX.1
def Kf:=cL.mk 2 [.tmp 4,.tmp 5] (sub ZL 0)
def acE:aG Tryz.prog Ij Tryz.f125=some Kf:=cU (by kernel_rfl)
def aeC:=by
 have h:=aI ZL LX.1 0 (bn _)
 simp only [LX,cX,simprocAttr] at h
 exact h
def S4:cI:={ n:=40,own:=[],lv:=[(0,[1,2,3]),(1,[2,8,9]),(2,[2,8,9,21]),(3,[6,7]),(4,[2,8,25]),(5,[6,7]),(6,[8,10,11]),(7,[8,10,33]),(8,[6,7]),(9,[6,7])],lp:=[] }
def WG:Cv aM S4 Tryz.f84:=by apply Subtype.mk; cbv
def b84:=WG.1
def Vp:=cL.mk 3 [.tmp 6,.tmp 7] (sub b84 0)
def aiX:aG Tryz.prog S4 Tryz.f84=some Vp:=cU (by kernel_rfl)
def T9:=by
 have h:=aI b84 WG.1 0 (bn _)
 simp only [WG,cX,simprocAttr] at h
 exact h
def Ia:cI:={ n:=13,own:=[],lv:=[(0,[1,2,4]),(1,[4,5])],lp:=[] }
def LO:Cv aM Ia Tryz.f117:=by apply Subtype.mk; cbv
def ZF:=LO.1
def J8:=cL.mk 2 [.eW 4 6,.tmp 5] (sub ZF 0)
def acw:aG Tryz.prog Ia Tryz.f117=some J8:=cU (by kernel_rfl)
def aeB:=by
 have h:=aI ZF LO.1 0 (bn _)
 simp only [LO,cX,simprocAttr] at h
 exact h
def Ik:cI:={ n:=44,own:=[9],lv:=[(0,[0,1]),(1,[0,1,5]),(2,[0,1,5,22]),(3,[0,5,6,7]),(4,[0,5,6,35]),(5,[4]),(6,[0,1,5]),(7,[0,1,5]),(8,[4])],lp:=[(2,[0,1,5])] }
def LY:Cv aM Ik Tryz.f126:=by apply Subtype.mk; cbv
def Uj:=LY.1
def Kg:=cL.mk 2 [.tmp 4] (sub Uj 0)
def acF:aG Tryz.prog Ik Tryz.f126=some Kg:=cU (by kernel_rfl)
abbrev Qp:=sub Uj 7
def vg:=by
 have h:=aI Uj LY.1 0 (bn _)
 simp only [LY,cX,simprocAttr] at h
 exact h
def IU:cI:={ n:=10,own:=[],lv:=[(0,[0,1]),(1,[4])],lp:=[] }
def Mp:Cv aM IU Tryz.f162:=by apply Subtype.mk; cbv
def Z5:=Mp.1
def KE:=cL.mk 2 [.tmp 4] (sub Z5 0)
def ac5:aG Tryz.prog IU Tryz.f162=some KE:=cU (by kernel_rfl)
def aeN:=by
 have h:=aI Z5 Mp.1 0 (bn _)
 simp only [Mp,cX,simprocAttr] at h
 exact h
def H2:cI:={ n:=45,own:=[1000164,1000165],lv:=[(0,[0,3]),(1,[0,3,4,5]),(2,[0,3,4,5]),(3,[0,3,4,23]),(4,[]),(5,[])],lp:=[] }
def LG:Cv aM H2 Tryz.f108:=by apply Subtype.mk; cbv
def Zz:=LG.1
def J2:=cL.mk 2 [] (sub Zz 0)
def acn:aG Tryz.prog H2 Tryz.f108=some J2:=cU (by kernel_rfl)
def TZ:=by
 have h:=aI Zz LG.1 0 (bn _)
 simp only [LG,cX,simprocAttr] at h
 exact h
def IW:cI:={ n:=27,own:=[1000164,1000205],lv:=[(0,[0,4,5]),(1,[0,4,12]),(2,[])],lp:=[] }
def Mr:Cv aM IW Tryz.f167:=by apply Subtype.mk; cbv
def Z7:=Mr.1
def KG:=cL.mk 2 [] (sub Z7 0)
def ac7:aG Tryz.prog IW Tryz.f167=some KG:=cU (by kernel_rfl)
def T6:=by
 have h:=aI Z7 Mr.1 0 (bn _)
 simp only [Mr,cX,simprocAttr] at h
 exact h
def H3:cI:={ n:=51,own:=[1000131,1000166,2000108],lv:=[(0,[0,2,3,8]),(1,[0,2,3,8,10]),(2,[0,8]),(3,[0,8]),(4,[])],lp:=[] }
def LH:Cv aM H3 Tryz.f109:=by apply Subtype.mk; cbv
def ZA:=LH.1
def J3:=cL.mk 4 [] (sub ZA 0)
def aco:aG Tryz.prog H3 Tryz.f109=some J3:=cU (by kernel_rfl)
def HL:=by
 have h:=aI ZA LH.1 0 (bn _)
 simp only [LH,cX,simprocAttr] at h
 exact h
def Ig:cI:={ n:=34,own:=[1000131,1000171,2000108],lv:=[(0,[0,2,6]),(1,[0,6,8,9]),(2,[0,6,8,22]),(3,[0,6]),(4,[])],lp:=[] }
def LS:Cv aM Ig Tryz.f121:=by apply Subtype.mk; cbv
def ZI:=LS.1
def Kc:=cL.mk 3 [] (sub ZI 0)
def acA:aG Tryz.prog Ig Tryz.f121=some Kc:=cU (by kernel_rfl)
def O2:=by
 have h:=aI ZI LS.1 0 (bn _)
 simp only [LS,cX,simprocAttr] at h
 exact h
def Ih:cI:={ n:=18,own:=[],lv:=[(0,[0,3]),(1,[0,3,6]),(2,[]),(3,[0,3]),(4,[])],lp:=[] }
def LU:Cv aM Ih Tryz.f122:=by apply Subtype.mk; cbv
def ZJ:=LU.1
def Kd:=cL.mk 2 [] (sub ZJ 0)
def acB:aG Tryz.prog Ih Tryz.f122=some Kd:=cU (by kernel_rfl)
def T1:=by
 have h:=aI ZJ LU.1 0 (bn _)
 simp only [LU,cX,simprocAttr] at h
 exact h
def H0:cI:={ n:=48,own:=[],lv:=[(0,[0,1,2]),(1,[0,1,2,7,8]),(2,[0,1,2,7,8,18]),(3,[6]),(4,[0,1,2,7,22]),(5,[6]),(6,[0,1,7,10]),(7,[0,1,7,29]),(8,[6]),(9,[47]),(10,[6]),(11,[6])],lp:=[] }
def LF:Cv aM H0 Tryz.f107:=by apply Subtype.mk; cbv
def Zy:=LF.1
def J1:=cL.mk 3 [.tmp 6] (sub Zy 0)
def acm:aG Tryz.prog H0 Tryz.f107=some J1:=cU (by kernel_rfl)
def Ae:=by
 have h:=aI Zy LF.1 0 (bn _)
 simp only [LF,cX,simprocAttr] at h
 exact h
def Im:cI:={ n:=28,own:=[],lv:=[(0,[2,3]),(1,[2,3,5]),(2,[4]),(3,[3,14]),(4,[4]),(5,[23]),(6,[4]),(7,[4])],lp:=[] }
def L0:Cv aM Im Tryz.f128:=by apply Subtype.mk; cbv
def ZN:=L0.1
def Ki:=cL.mk 2 [.tmp 4] (sub ZN 0)
def acH:aG Tryz.prog Im Tryz.f128=some Ki:=cU (by kernel_rfl)
def Y7:=by
 have h:=aI ZN L0.1 0 (bn _)
 simp only [L0,cX,simprocAttr] at h
 exact h
def H7:cI:={ n:=39,own:=[],lv:=[(0,[1,2,4]),(1,[1,2,4,6]),(2,[1,2,4,6,7,8]),(3,[1,2,4,6,7,18]),(4,[4,5]),(5,[1,2,4,6,7,22]),(6,[4,5]),(7,[1,2,4,6,27]),(8,[4,5]),(9,[4,6]),(10,[4,5])],lp:=[] }
def LL:Cv aM H7 Tryz.f113:=by apply Subtype.mk; cbv
def ZD:=LL.1
def J6:=cL.mk 2 [.eW 4 3,.tmp 5] (sub ZD 0)
def acs:aG Tryz.prog H7 Tryz.f113=some J6:=cU (by kernel_rfl)
def Y6:=by
 have h:=aI ZD LL.1 0 (bn _)
 simp only [LL,cX,simprocAttr] at h
 exact h
def II:cI:={ n:=44,own:=[],lv:=[(0,[1,2,3,6]),(1,[1,2,3,6,8]),(2,[2,3,6,8,9,10]),(3,[2,3,6,8,9,20]),(4,[6,7]),(5,[2,3,6,8,9,24]),(6,[6,7]),(7,[2,3,6,8,9,29]),(8,[6,7]),(9,[6,8,9]),(10,[6,8]),(11,[6,7])],lp:=[] }
def Mg:Cv aM II Tryz.f150:=by apply Subtype.mk; cbv
def Z0:=Mg.1
def Kw:=cL.mk 3 [.eW 6 3,.tmp 7] (sub Z0 0)
def acX:aG Tryz.prog II Tryz.f150=some Kw:=cU (by kernel_rfl)
def O4:=by
 have h:=aI Z0 Mg.1 0 (bn _)
 simp only [Mg,cX,simprocAttr] at h
 exact h
def S0:cI:={ n:=83,own:=[],lv:=[(0,[1,2,3,4,8]),(1,[1,2,3,4,8,19]),(2,[8,9,10]),(3,[1,2,3,4,8,11]),(4,[1,2,3,4,8,11,12]),(5,[1,2,3,4,8,11,12,29]),(6,[8,9,10]),(7,[1,2,3,4,8,11,46]),(8,[8,9,10]),(9,[1,2,3,8,11,13]),(10,[1,2,8,11,13,56]),(11,[1,2,8,11,13]),(12,[1,2,8,11,13]),(13,[1,2,8,11,13]),(14,[8,11,13]),(15,[8,9,10])],lp:=[] }
def WB:Cv aM S0 Tryz.f80:=by apply Subtype.mk; cbv
def b80:=WB.1
def Vl:=cL.mk 4 [.eW 8 3,.tmp 9,.tmp 10] (sub b80 0)
def aiT:aG Tryz.prog S0 Tryz.f80=some Vl:=cU (by kernel_rfl)
def E80:=by
 have h:=aI b80 WB.1 0 (bn _)
 simp only [WB,cX,simprocAttr] at h
 exact h
def S2:cI:={ n:=66,own:=[],lv:=[(0,[1,2,3,4,8]),(1,[1,2,3,4,8,10]),(2,[1,2,3,4,8,10,11,12]),(3,[1,2,3,4,8,10,11,23]),(4,[8,9]),(5,[1,2,3,4,8,10,11,37]),(6,[8,9]),(7,[1,2,3,4,8,10,11,13]),(8,[1,2,3,4,8,10,11,13,47]),(9,[8,9]),(10,[1,2,3,8,10,11]),(11,[1,2,3,8,10]),(12,[8,10]),(13,[8,9])],lp:=[] }
def WD:Cv aM S2 Tryz.f82:=by apply Subtype.mk; cbv
def b82:=WD.1
def Vn:=cL.mk 4 [.eW 8 3,.tmp 9] (sub b82 0)
def aiV:aG Tryz.prog S2 Tryz.f82=some Vn:=cU (by kernel_rfl)
def E82:=by
 have h:=aI b82 WD.1 0 (bn _)
 simp only [WD,cX,simprocAttr] at h
 exact h
def S3:cI:={ n:=51,own:=[],lv:=[(0,[1,2,3,6]),(1,[1,2,3,6,9,10]),(2,[1,2,3,6,9,10,22]),(3,[6,7,8]),(4,[1,2,3,6,9,11]),(5,[1,2,3,6,9,11,12]),(6,[1,2,3,6,9,11,12,37]),(7,[6,7,8]),(8,[6,9,11,12]),(9,[6,9,11]),(10,[6,7,8])],lp:=[] }
def WE:Cv aM S3 Tryz.f83:=by apply Subtype.mk; cbv
def b83:=WE.1
def Vo:=cL.mk 3 [.eW 6 3,.tmp 7,.tmp 8] (sub b83 0)
def aiW:aG Tryz.prog S3 Tryz.f83=some Vo:=cU (by kernel_rfl)
def Zh:=by
 have h:=aI b83 WE.1 0 (bn _)
 simp only [WE,cX,simprocAttr] at h
 exact h
def I6:cI:={ n:=19,own:=[],lv:=[(0,[0,1]),(1,[0,1,7,8]),(2,[0,1,7,8,9]),(3,[0,1,5,7,8]),(4,[0,1,5,7,8,16]),(5,[4]),(6,[0,1,7,8]),(7,[4])],lp:=[(2,[0,1,7,8])] }
def My:Cv aM I6 Tryz.f175:=by apply Subtype.mk; cbv
def Ut:=My.1
def KM:=cL.mk 2 [.tmp 4] (sub Ut 0)
def adg:aG Tryz.prog I6 Tryz.f175=some KM:=cU (by kernel_rfl)
abbrev Qz:=sub Ut 7
def Ck:=by
 have h:=aI Ut My.1 0 (bn _)
 simp only [My,cX,simprocAttr] at h
 exact h
def Il:cI:={ n:=9,own:=[],lv:=[(0,[0,1]),(1,[4])],lp:=[] }
def LZ:Cv aM Il Tryz.f127:=by apply Subtype.mk; cbv
def ZM:=LZ.1
def Kh:=cL.mk 2 [.tmp 4] (sub ZM 0)
def acG:aG Tryz.prog Il Tryz.f127=some Kh:=cU (by kernel_rfl)
def aeD:=by
 have h:=aI ZM LZ.1 0 (bn _)
 simp only [LZ,cX,simprocAttr] at h
 exact h
def I8:cI:={ n:=40,own:=[],lv:=[(0,[1,2,3,4,5]),(1,[1,2,3,4,5,11]),(2,[6]),(3,[2,3,4,5,7]),(4,[4,5,7,8]),(5,[6])],lp:=[] }
def MA:Cv aM I8 Tryz.f177:=by apply Subtype.mk; cbv
def aac:=MA.1
def KO:=cL.mk 5 [.tmp 6] (sub aac 0)
def adi:aG Tryz.prog I8 Tryz.f177=some KO:=cU (by kernel_rfl)
def Zc:=by
 have h:=aI aac MA.1 0 (bn _)
 simp only [MA,cX,simprocAttr] at h
 exact h
def Jo:cI:={ n:=19,own:=[],lv:=[(0,[0,1]),(1,[0,1,7,8]),(2,[0,1,7,8,9]),(3,[0,1,5,7,8]),(4,[0,1,5,7,8,16]),(5,[4]),(6,[0,1,7,8]),(7,[4])],lp:=[(2,[0,1,7,8])] }
def MR:Cv aM Jo Tryz.f209:=by apply Subtype.mk; cbv
def Ux:=MR.1
def K0:=cL.mk 2 [.tmp 4] (sub Ux 0)
def adA:aG Tryz.prog Jo Tryz.f209=some K0:=cU (by kernel_rfl)
abbrev QD:=sub Ux 7
def Cl:=by
 have h:=aI Ux MR.1 0 (bn _)
 simp only [MR,cX,simprocAttr] at h
 exact h
def I7:cI:={ n:=9,own:=[],lv:=[(0,[0,1]),(1,[4])],lp:=[] }
def Mz:Cv aM I7 Tryz.f176:=by apply Subtype.mk; cbv
def aab:=Mz.1
def KN:=cL.mk 2 [.tmp 4] (sub aab 0)
def adh:aG Tryz.prog I7 Tryz.f176=some KN:=cU (by kernel_rfl)
def aeS:=by
 have h:=aI aab Mz.1 0 (bn _)
 simp only [Mz,cX,simprocAttr] at h
 exact h
def Ip:cI:={ n:=18,own:=[],lv:=[(0,[3,4,5]),(1,[3,4,5,7]),(2,[6])],lp:=[] }
def L1:Cv aM Ip Tryz.f129:=by apply Subtype.mk; cbv
def ZO:=L1.1
def Kj:=cL.mk 3 [.tmp 6] (sub ZO 0)
def acI:aG Tryz.prog Ip Tryz.f129=some Kj:=cU (by kernel_rfl)
def aeE:=by
 have h:=aI ZO L1.1 0 (bn _)
 simp only [L1,cX,simprocAttr] at h
 exact h
def S5:cI:={ n:=173,own:=[],lv:=[(0,[1,2,3,4,5,10]),(1,[1,2,3,4,5,10,13,14]),(2,[1,2,3,4,5,10,13,14,33]),(3,[10,11,12]),(4,[1,2,3,4,5,10,13,15]),(5,[1,2,3,4,5,10,13,14,15,16]),(6,[1,2,3,4,5,10,13,14,15,16,46]),(7,[10,11,12]),(8,[1,2,3,4,5,10,13,15,16,51]),(9,[10,11,12]),(10,[1,2,3,4,5,10,13,15,16,17]),(11,[1,2,3,4,5,10,13,15,16,17,19]),(12,[1,2,3,4,5,10,13,15,16,17,19,20,21]),(13,[1,2,3,4,5,10,13,15,16,17,19,20,21,65]),(14,[1,2,3,4,5,10,13,15,16,17,19,21]),(15,[1,2,3,4,5,10,13,15,16,17,19,21,80]),(16,[10,11,12]),(17,[1,2,3,4,5,10,13,15,16,17,19,21,22]),(18,[1,2,3,4,5,10,13,15,16,17,19,21,22,92]),(19,[10,11,12]),(20,[1,2,3,4,5,10,13,15,16,17,19,21,22,94]),(21,[1,2,3,4,5,10,13,15,16,17,19,21,22,23]),(22,[1,2,3,4,5,10,13,15,16,17,19,21,22,23,99]),(23,[10,11,12]),(24,[1,2,3,4,5,10,13,15,17,19,21,22,24]),(25,[1,2,3,4,5,10,13,15,17,19,21,140]),(26,[10,11,12]),(27,[3,4,10,13,15,17,19,21]),(28,[3,4,10,13,15,17,19,146]),(29,[3,4,10,13,15,17,19]),(30,[3,4,10,13,15,17,19]),(31,[3,4,10,13,15,17,19,156]),(32,[3,4,10,13,15,17,19]),(33,[3,4,10,13,15,19]),(34,[10,15,19]),(35,[10,11,12])],lp:=[] }
def WH:Cv aM S5 Tryz.f85:=by apply Subtype.mk; cbv
def b85:=WH.1
def Vq:=cL.mk 5 [.eW 10 3,.tmp 11,.tmp 12] (sub b85 0)
def aiY:aG Tryz.prog S5 Tryz.f85=some Vq:=cU (by kernel_rfl)
abbrev Oa:=sub b85 86
def Cp:=by
 have h:=aI b85 WH.1 0 (bn _)
 simp only [WH,cX,simprocAttr] at h
 exact h
def Jc:cI:={ n:=49,own:=[],lv:=[(0,[0,1,2]),(1,[0,1,2,8]),(2,[0,1,2,8,9,10]),(3,[0,1,2,8,9,10,17]),(4,[0,1,2,8,9,10,11]),(5,[0,1,2,8,9,10,11,31]),(6,[0,1,2,8,9,10]),(7,[0,1,2,8,9,10]),(8,[6,7])],lp:=[(3,[0,1,2,8,9,10])] }
def MF:Cv aM Jc Tryz.f185:=by apply Subtype.mk; cbv
def Uu:=MF.1
def EC:=cL.mk 3 [.tmp 6,.tmp 7] (sub Uu 0)
def adm:aG Tryz.prog Jc Tryz.f185=some EC:=cU (by kernel_rfl)
abbrev ER:=sub Uu 9
def qi:=by
 have h:=aI Uu MF.1 0 (bn _)
 simp only [MF,cX,simprocAttr] at h
 exact h
def Jl:cI:={ n:=9,own:=[],lv:=[(0,[1,2]),(1,[4])],lp:=[] }
def MO:Cv aM Jl Tryz.f200:=by apply Subtype.mk; cbv
def aal:=MO.1
def KX:=cL.mk 2 [.tmp 4] (sub aal 0)
def adx:aG Tryz.prog Jl Tryz.f200=some KX:=cU (by kernel_rfl)
def aeZ:=by
 have h:=aI aal MO.1 0 (bn _)
 simp only [MO,cX,simprocAttr] at h
 exact h
def Sx:cI:={ n:=20,own:=[],lv:=[(0,[0,1]),(1,[0,1,5]),(2,[0,1,5,6]),(3,[0,1,6,11]),(4,[12]),(5,[4]),(6,[4]),(7,[0,1,13]),(8,[4]),(9,[0,1,16]),(10,[4]),(11,[19]),(12,[4]),(13,[4])],lp:=[] }
def V9:Cv aM Sx Tryz.f44:=by apply Subtype.mk; cbv
def b44:=V9.1
def Vb:=cL.mk 2 [.tmp 4] (sub b44 0)
def ait:aG Tryz.prog Sx Tryz.f44=some Vb:=cU (by kernel_rfl)
def E44:=by
 have h:=aI b44 V9.1 0 (bn _)
 simp only [V9,cX,simprocAttr] at h
 exact h
def SX:cI:={ n:=6,own:=[],lv:=[(0,[0]),(1,[2])],lp:=[] }
def Wy:Cv aM SX Tryz.f73:=by apply Subtype.mk; cbv
def b73:=Wy.1
def Vi:=cL.mk 1 [.tmp 2] (sub b73 0)
def aiQ:aG Tryz.prog SX Tryz.f73=some Vi:=cU (by kernel_rfl)
def E73:=by
 have h:=aI b73 Wy.1 0 (bn _)
 simp only [Wy,cX,simprocAttr] at h
 exact h
def Sk:cI:={ n:=26,own:=[],lv:=[(0,[2,3]),(1,[2,3,5]),(2,[4])],lp:=[] }
def VZ:Cv aM Sk Tryz.f33:=by apply Subtype.mk; cbv
def b33:=VZ.1
def U1:=cL.mk 2 [.tmp 4] (sub b33 0)
def aij:aG Tryz.prog Sk Tryz.f33=some U1:=cU (by kernel_rfl)
def E33:=by
 have h:=aI b33 VZ.1 0 (bn _)
 simp only [VZ,cX,simprocAttr] at h
 exact h
def Sy:cI:={ n:=45,own:=[],lv:=[(0,[2,3]),(1,[4])],lp:=[] }
def Wa:Cv aM Sy Tryz.f51:=by apply Subtype.mk; cbv
def b51:=Wa.1
def Vc:=cL.mk 2 [.tmp 4] (sub b51 0)
def aiu:aG Tryz.prog Sy Tryz.f51=some Vc:=cU (by kernel_rfl)
def E51:=by
 have h:=aI b51 Wa.1 0 (bn _)
 simp only [Wa,cX,simprocAttr] at h
 exact h
def SA:cI:={ n:=10,own:=[],lv:=[(0,[0,1]),(1,[4])],lp:=[] }
def Wb:Cv aM SA Tryz.f52:=by apply Subtype.mk; cbv
def b52:=Wb.1
def Vd:=cL.mk 2 [.tmp 4] (sub b52 0)
def aiv:aG Tryz.prog SA Tryz.f52=some Vd:=cU (by kernel_rfl)
def E52:=by
 have h:=aI b52 Wb.1 0 (bn _)
 simp only [Wb,cX,simprocAttr] at h
 exact h
def SB:cI:={ n:=26,own:=[],lv:=[(0,[0,1]),(1,[0,1,10]),(2,[4]),(3,[0,1,12,13]),(4,[0,1,12,13,14]),(5,[0,1,5,12,13]),(6,[0,1,12,13,24]),(7,[4]),(8,[0,1,12,13]),(9,[4])],lp:=[(4,[0,1,12,13])] }
def Wc:Cv aM SB Tryz.f53:=by apply Subtype.mk; cbv
def b53:=Wc.1
def Ve:=cL.mk 2 [.tmp 4] (sub b53 0)
def aiw:aG Tryz.prog SB Tryz.f53=some Ve:=cU (by kernel_rfl)
abbrev Xg:=sub b53 15
def Pe:=by
 have h:=aI b53 Wc.1 0 (bn _)
 simp only [Wc,cX,simprocAttr] at h
 exact h
def SC:cI:={ n:=32,own:=[],lv:=[(0,[0,1,2]),(1,[0,1,2,14]),(2,[6]),(3,[1,2,15,16,17]),(4,[1,2,15,16,17,18]),(5,[1,2,7,8,15,16,17]),(6,[1,2,8,9,15,16,17]),(7,[1,2,15,16,17,30]),(8,[6]),(9,[1,2,15,16,17]),(10,[6])],lp:=[(4,[1,2,15,16,17])] }
def We:Cv aM SC Tryz.f54:=by apply Subtype.mk; cbv
def b54:=We.1
def Vf:=cL.mk 3 [.tmp 6] (sub b54 0)
def aix:aG Tryz.prog SC Tryz.f54=some Vf:=cU (by kernel_rfl)
abbrev Xh:=sub b54 15
def Pf:=by
 have h:=aI b54 We.1 0 (bn _)
 simp only [We,cX,simprocAttr] at h
 exact h
def S6:cI:={ n:=58,own:=[1000131],lv:=[(0,[1,3,4,6]),(1,[1,3,4,6,23]),(2,[8,9,10]),(3,[3,6,11,12]),(4,[3,6,11,12,33]),(5,[8,9,10]),(6,[3,13]),(7,[3,13]),(8,[3,13,45]),(9,[8,9,10]),(10,[8,9,10])],lp:=[] }
def WI:Cv aM S6 Tryz.f86:=by apply Subtype.mk; cbv
def b86:=WI.1
def xB:=cL.mk 4 [.tmp 8,.tmp 9,.tmp 10] (sub b86 0)
def aiZ:aG Tryz.prog S6 Tryz.f86=some xB:=cU (by kernel_rfl)
def RZ:=by
 have h:=aI b86 WI.1 0 (bn _)
 simp only [WI,cX,simprocAttr] at h
 exact h
def Th:cI:={ n:=19,own:=[],lv:=[(0,[0,1]),(1,[0,1,7,8]),(2,[0,1,7,8,9]),(3,[0,1,5,7,8]),(4,[0,1,5,7,8,16]),(5,[4]),(6,[0,1,7,8]),(7,[4])],lp:=[(2,[0,1,7,8])] }
def WU:Cv aM Th Tryz.f99:=by apply Subtype.mk; cbv
def b99:=WU.1
def La:=cL.mk 2 [.tmp 4] (sub b99 0)
def aja:aG Tryz.prog Th Tryz.f99=some La:=cU (by kernel_rfl)
abbrev M6:=sub b99 7
def Ci:=by
 have h:=aI b99 WU.1 0 (bn _)
 simp only [WU,cX,simprocAttr] at h
 exact h
def Iq:cI:={ n:=42,own:=[],lv:=[(0,[0,1]),(1,[0,1,5]),(2,[0,1,5,12]),(3,[4]),(4,[0,1,5,6]),(5,[0,1,5,6,19]),(6,[0,1,5,6]),(7,[0,1,5,6,7]),(8,[0,1,5,6,7,29]),(9,[0,1,5,6]),(10,[0,1,5,6]),(11,[0,5]),(12,[4])],lp:=[(5,[0,1,5,6])] }
def L2:Cv aM Iq Tryz.f130:=by apply Subtype.mk; cbv
def Uk:=L2.1
def Ba:=cL.mk 2 [.tmp 4] (sub Uk 0)
def acJ:aG Tryz.prog Iq Tryz.f130=some Ba:=cU (by kernel_rfl)
abbrev Qq:=sub Uk 17
def zd:=by
 have h:=aI Uk L2.1 0 (bn _)
 simp only [L2,cX,simprocAttr] at h
 exact h
def Ir:cI:={ n:=8,own:=[],lv:=[(0,[1,2]),(1,[3])],lp:=[] }
def L3:Cv aM Ir Tryz.f132:=by apply Subtype.mk; cbv
def ZP:=L3.1
def Kk:=cL.mk 2 [.tmp 3] (sub ZP 0)
def acK:aG Tryz.prog Ir Tryz.f132=some Kk:=cU (by kernel_rfl)
def aeF:=by
 have h:=aI ZP L3.1 0 (bn _)
 simp only [L3,cX,simprocAttr] at h
 exact h
def It:cI:={ n:=10,own:=[],lv:=[(0,[2,3]),(1,[4])],lp:=[] }
def abU:Cv aM It Tryz.f134:=by apply Subtype.mk; cbv
def afg:=abU.1
def TB:=cL.mk 2 [.tmp 4] (sub afg 0)
def acL:aG Tryz.prog It Tryz.f134=some TB:=cU (by kernel_rfl)
def Sg:cI:={ n:=4,own:=[],lv:=[(0,[0]),(1,[0])],lp:=[] }
def VV:Cv aM Sg Tryz.f26:=by apply Subtype.mk; cbv
def b26:=VV.1
def UY:=cL.mk 0 [.eW 0 3] (sub b26 0)
def aie:aG Tryz.prog Sg Tryz.f26=some UY:=cU (by kernel_rfl)
def E26:=by
 have h:=aI b26 VV.1 0 (bn _)
 simp only [VV,cX,simprocAttr] at h
 exact h
def HX:cI:={ n:=37,own:=[],lv:=[(0,[1,2]),(1,[2,6,7]),(2,[2,6,7,17]),(3,[4,5]),(4,[2,6,8]),(5,[2,8,19,20,21]),(6,[2,8,19,20,21,22]),(7,[2,8,10,19,20,21]),(8,[2,7,8,19,20,21]),(9,[2,7,8,19,20,21,33]),(10,[4,5]),(11,[2,8,19,20,21]),(12,[4,5])],lp:=[(6,[2,8,19,20,21])] }
def LB:Cv aM HX Tryz.f104:=by apply Subtype.mk; cbv
def Pv:=LB.1
def JY:=cL.mk 2 [.tmp 4,.tmp 5] (sub Pv 0)
def aci:aG Tryz.prog HX Tryz.f104=some JY:=cU (by kernel_rfl)
abbrev Ql:=sub Pv 19
abbrev Yh:=sub Pv 39
def Cj:=by
 have h:=aI Pv LB.1 0 (bn _)
 simp only [LB,cX,simprocAttr] at h
 exact h
def HZ:cI:={ n:=31,own:=[],lv:=[(0,[0]),(1,[5,6]),(2,[5,19]),(3,[2,3,4]),(4,[5,7]),(5,[2,3,4])],lp:=[] }
def LD:Cv aM HZ Tryz.f106:=by apply Subtype.mk; cbv
def Zx:=LD.1
def J0:=cL.mk 1 [.tmp 2,.tmp 3,.tmp 4] (sub Zx 0)
def ack:aG Tryz.prog HZ Tryz.f106=some J0:=cU (by kernel_rfl)
def O1:=by
 have h:=aI Zx LD.1 0 (bn _)
 simp only [LD,cX,simprocAttr] at h
 exact h
end Go.Proofs.YtdbadpnkhaepnaaGreatDoor
set_option linter.defProp false
set_option maxRecDepth 100000
namespace Go.Proofs.YtdbadpnkhaepnaaGreatDoor
open Go Go.Abs
def Iu:cI:={ n:=21,own:=[],lv:=[(0,[1]),(1,[2])],lp:=[] }
def L4:Cv aM Iu Tryz.f135:=by apply Subtype.mk; cbv
def ZQ:=L4.1
def Kl:=cL.mk 1 [.tmp 2] (sub ZQ 0)
def acM:aG Tryz.prog Iu Tryz.f135=some Kl:=cU (by kernel_rfl)
def Y8:=by
 have h:=aI ZQ L4.1 0 (bn _)
 simp only [L4,cX,simprocAttr] at h
 exact h
def Iv:cI:={ n:=49,own:=[],lv:=[(0,[0,2,4]),(1,[0,2,4,8]),(2,[0,2,4,8,9,10]),(3,[0,2,4,8,9,10,17]),(4,[0,2,4,8,9,10,11]),(5,[0,2,4,8,9,10,11,31]),(6,[0,2,4,8,9,10]),(7,[0,2,4,8,9,10]),(8,[6,7])],lp:=[(3,[0,2,4,8,9,10])] }
def L5:Cv aM Iv Tryz.f136:=by apply Subtype.mk; cbv
def Ul:=L5.1
def Km:=cL.mk 3 [.tmp 6,.tmp 7] (sub Ul 0)
def acN:aG Tryz.prog Iv Tryz.f136=some Km:=cU (by kernel_rfl)
abbrev Qr:=sub Ul 9
def Af:=by
 have h:=aI Ul L5.1 0 (bn _)
 simp only [L5,cX,simprocAttr] at h
 exact h
def Iw:cI:={ n:=22,own:=[],lv:=[(0,[3,4]),(1,[3,7]),(2,[6])],lp:=[] }
def L6:Cv aM Iw Tryz.f137:=by apply Subtype.mk; cbv
def ZR:=L6.1
def Kn:=cL.mk 3 [.tmp 6] (sub ZR 0)
def acO:aG Tryz.prog Iw Tryz.f137=some Kn:=cU (by kernel_rfl)
def aeG:=by
 have h:=aI ZR L6.1 0 (bn _)
 simp only [L6,cX,simprocAttr] at h
 exact h
def Iy:cI:={ n:=11,own:=[],lv:=[(0,[1]),(1,[2])],lp:=[] }
def L7:Cv aM Iy Tryz.f138:=by apply Subtype.mk; cbv
def ZT:=L7.1
def Ko:=cL.mk 1 [.tmp 2] (sub ZT 0)
def acP:aG Tryz.prog Iy Tryz.f138=some Ko:=cU (by kernel_rfl)
def Y9:=by
 have h:=aI ZT L7.1 0 (bn _)
 simp only [L7,cX,simprocAttr] at h
 exact h
def I9:cI:={ n:=8,own:=[],lv:=[(0,[1,2]),(1,[2])],lp:=[] }
def MB:Cv aM I9 Tryz.f180:=by apply Subtype.mk; cbv
def aad:=MB.1
def KQ:=cL.mk 1 [.eW 2 2] (sub aad 0)
def adj:aG Tryz.prog I9 Tryz.f180=some KQ:=cU (by kernel_rfl)
def aeT:=by
 have h:=aI aad MB.1 0 (bn _)
 simp only [MB,cX,simprocAttr] at h
 exact h
def IA:cI:={ n:=9,own:=[],lv:=[(0,[2,3]),(1,[4])],lp:=[] }
def L9:Cv aM IA Tryz.f142:=by apply Subtype.mk; cbv
def ZU:=L9.1
def Kq:=cL.mk 2 [.tmp 4] (sub ZU 0)
def acR:aG Tryz.prog IA Tryz.f142=some Kq:=cU (by kernel_rfl)
def aeH:=by
 have h:=aI ZU L9.1 0 (bn _)
 simp only [L9,cX,simprocAttr] at h
 exact h
def Iz:cI:={ n:=19,own:=[],lv:=[(0,[0,1]),(1,[0,1,7,8]),(2,[0,1,7,8,9]),(3,[0,1,5,7,8]),(4,[0,1,5,7,8,16]),(5,[4]),(6,[0,1,7,8]),(7,[4])],lp:=[(2,[0,1,7,8])] }
def L8:Cv aM Iz Tryz.f141:=by apply Subtype.mk; cbv
def Um:=L8.1
def Bb:=cL.mk 2 [.tmp 4] (sub Um 0)
def acQ:aG Tryz.prog Iz Tryz.f141=some Bb:=cU (by kernel_rfl)
abbrev zG:=sub Um 7
def mS:=by
 have h:=aI Um L8.1 0 (bn _)
 simp only [L8,cX,simprocAttr] at h
 exact h
def IB:cI:={ n:=8,own:=[],lv:=[(0,[0,3]),(1,[4])],lp:=[] }
def Ma:Cv aM IB Tryz.f144:=by apply Subtype.mk; cbv
def ZV:=Ma.1
def Kr:=cL.mk 2 [.tmp 4] (sub ZV 0)
def acS:aG Tryz.prog IB Tryz.f144=some Kr:=cU (by kernel_rfl)
def aeI:=by
 have h:=aI ZV Ma.1 0 (bn _)
 simp only [Ma,cX,simprocAttr] at h
 exact h
def Jb:cI:={ n:=8,own:=[],lv:=[(0,[1,2]),(1,[3])],lp:=[] }
def MD:Cv aM Jb Tryz.f184:=by apply Subtype.mk; cbv
def aaf:=MD.1
def KR:=cL.mk 2 [.tmp 3] (sub aaf 0)
def adl:aG Tryz.prog Jb Tryz.f184=some KR:=cU (by kernel_rfl)
def aeU:=by
 have h:=aI aaf MD.1 0 (bn _)
 simp only [MD,cX,simprocAttr] at h
 exact h
def H5:cI:={ n:=9,own:=[],lv:=[(0,[0,1]),(1,[4])],lp:=[] }
def LJ:Cv aM H5 Tryz.f111:=by apply Subtype.mk; cbv
def ZB:=LJ.1
def Ez:=cL.mk 2 [.tmp 4] (sub ZB 0)
def acq:aG Tryz.prog H5 Tryz.f111=some Ez:=cU (by kernel_rfl)
def Y5:=by
 have h:=aI ZB LJ.1 0 (bn _)
 simp only [LJ,cX,simprocAttr] at h
 exact h
def S9:cI:={ n:=68,own:=[1000140,1000139],lv:=[(0,[1,2,3,4,5]),(1,[1,2,3,4,5,12]),(2,[1,2,3,4,5,12,22]),(3,[10,11]),(4,[1,2,3,4,12,13,14]),(5,[1,2,3,4,13,14,15,16]),(6,[1,2,3,4,13,15,16,38]),(7,[10,11]),(8,[1,2,3,4,15,16,46]),(9,[10,11]),(10,[1,2,3,4,15,51]),(11,[10,11]),(12,[1,2,3,4,15,54]),(13,[10,11]),(14,[10,11])],lp:=[] }
def WL:Cv aM S9 Tryz.f89:=by apply Subtype.mk; cbv
def b89:=WL.1
def Vt:=cL.mk 5 [.tmp 10,.tmp 11] (sub b89 0)
def ai2:aG Tryz.prog S9 Tryz.f89=some Vt:=cU (by kernel_rfl)
def YN:=by
 have h:=aI b89 WL.1 0 (bn _)
 simp only [WL,cX,simprocAttr] at h
 exact h
def Ta:cI:={ n:=62,own:=[1000140,1000143,2000144],lv:=[(0,[1,2,3,4,8]),(1,[1,4,8,11]),(2,[1,4,8,11,23]),(3,[8,9,10]),(4,[1,4,8,11,12]),(5,[4,8,12,13]),(6,[4,8,12,13,14,15]),(7,[4,8,12,13,53]),(8,[4,8,13]),(9,[8,9,10])],lp:=[] }
def WM:Cv aM Ta Tryz.f90:=by apply Subtype.mk; cbv
def b90:=WM.1
def P4:=cL.mk 4 [.eW 8 3,.tmp 9,.tmp 10] (sub b90 0)
def ai3:aG Tryz.prog Ta Tryz.f90=some P4:=cU (by kernel_rfl)
def E90:=by
 have h:=aI b90 WM.1 0 (bn _)
 simp only [WM,cX,simprocAttr] at h
 exact h
def HW:cI:={ n:=33,own:=[],lv:=[(0,[1,2,3,6]),(1,[1,2,3,6,10,11,12]),(2,[1,2,3,6,10,11,12,13]),(3,[1,2,3,6,9,10,11,12]),(4,[1,2,3,6,9,10,11,12,19]),(5,[1,2,3,6,10,11,12]),(6,[1,2,3,6,10,11,12]),(7,[6,7])],lp:=[(2,[1,2,3,6,10,11,12])] }
def LA:Cv aM HW Tryz.f102:=by apply Subtype.mk; cbv
def Pu:=LA.1
def JX:=cL.mk 3 [.eW 6 3,.tmp 7] (sub Pu 0)
def ach:aG Tryz.prog HW Tryz.f102=some JX:=cU (by kernel_rfl)
abbrev Qk:=sub Pu 7
abbrev Yg:=sub Pu 23
def Fw:=by
 have h:=aI Pu LA.1 0 (bn _)
 simp only [LA,cX,simprocAttr] at h
 exact h
def IH:cI:={ n:=22,own:=[],lv:=[(0,[0,1,2]),(1,[0,8]),(2,[0,8,16]),(3,[6,7]),(4,[6,7])],lp:=[] }
def Mf:Cv aM IH Tryz.f149:=by apply Subtype.mk; cbv
def ZZ:=Mf.1
def Kv:=cL.mk 3 [.tmp 6,.tmp 7] (sub ZZ 0)
def acW:aG Tryz.prog IH Tryz.f149=some Kv:=cU (by kernel_rfl)
def T4:=by
 have h:=aI ZZ Mf.1 0 (bn _)
 simp only [Mf,cX,simprocAttr] at h
 exact h
def H4:cI:={ n:=22,own:=[3],lv:=[(0,[1]),(1,[1,3]),(2,[3,7,8,9]),(3,[3,7,8,9,10]),(4,[3,5,7,8,9]),(5,[3,5,7,8,9,14]),(6,[3,7,8,9]),(7,[3,7,8,9]),(8,[2])],lp:=[(3,[3,7,8,9])] }
def LI:Cv aM H4 Tryz.f110:=by apply Subtype.mk; cbv
def Pw:=LI.1
def J4:=cL.mk 1 [.tmp 2] (sub Pw 0)
def acp:aG Tryz.prog H4 Tryz.f110=some J4:=cU (by kernel_rfl)
abbrev Qm:=sub Pw 9
abbrev Yi:=sub Pw 25
def Fx:=by
 have h:=aI Pw LI.1 0 (bn _)
 simp only [LI,cX,simprocAttr] at h
 exact h
def Ic:cI:={ n:=31,own:=[],lv:=[(0,[1,2]),(1,[1,2,6]),(2,[1,2,6,7]),(3,[1,2,6,7,8]),(4,[1,2,6,7,8]),(5,[1,6,7,8,9,10]),(6,[1,6,7,8,24]),(7,[6,7]),(8,[4,5])],lp:=[] }
def LQ:Cv aM Ic Tryz.f119:=by apply Subtype.mk; cbv
def ZG:=LQ.1
def Ka:=cL.mk 2 [.tmp 4,.tmp 5] (sub ZG 0)
def acy:aG Tryz.prog Ic Tryz.f119=some Ka:=cU (by kernel_rfl)
def HM:=by
 have h:=aI ZG LQ.1 0 (bn _)
 simp only [LQ,cX,simprocAttr] at h
 exact h
def IZ:cI:={ n:=41,own:=[],lv:=[(0,[2,3,4,6]),(1,[3,4,6]),(2,[3,4,22,23,24]),(3,[3,4,22,23,24,25]),(4,[3,4,9,22,23,24]),(5,[3,4,9,22,23,24,32]),(6,[3,4,9,22,23,24]),(7,[3,4,22,23,24]),(8,[3,4,22,23,24])],lp:=[(3,[3,4,22,23,24])] }
def Mu:Cv aM IZ Tryz.f170:=by apply Subtype.mk; cbv
def Ur:=Mu.1
def KI:=cL.mk 5 [] (sub Ur 0)
def ada:aG Tryz.prog IZ Tryz.f170=some KI:=cU (by kernel_rfl)
abbrev Qx:=sub Ur 8
def Fy:=by
 have h:=aI Ur Mu.1 0 (bn _)
 simp only [Mu,cX,simprocAttr] at h
 exact h
def IJ:cI:={ n:=11,own:=[],lv:=[(0,[0,1]),(1,[4,5])],lp:=[] }
def Mh:Cv aM IJ Tryz.f151:=by apply Subtype.mk; cbv
def Z1:=Mh.1
def Kx:=cL.mk 2 [.tmp 4,.tmp 5] (sub Z1 0)
def acY:aG Tryz.prog IJ Tryz.f151=some Kx:=cU (by kernel_rfl)
def aeK:=by
 have h:=aI Z1 Mh.1 0 (bn _)
 simp only [Mh,cX,simprocAttr] at h
 exact h
def Jg:cI:={ n:=49,own:=[],lv:=[(0,[0,1,2]),(1,[0,1,2,8]),(2,[0,1,2,8,9,10]),(3,[0,1,2,8,9,10,17]),(4,[0,1,2,8,9,10,11]),(5,[0,1,2,8,9,10,11,31]),(6,[0,1,2,8,9,10]),(7,[0,1,2,8,9,10]),(8,[6,7])],lp:=[(3,[0,1,2,8,9,10])] }
def MJ:Cv aM Jg Tryz.f189:=by apply Subtype.mk; cbv
def Uv:=MJ.1
def KV:=cL.mk 3 [.tmp 6,.tmp 7] (sub Uv 0)
def adq:aG Tryz.prog Jg Tryz.f189=some KV:=cU (by kernel_rfl)
abbrev QA:=sub Uv 9
def Ai:=by
 have h:=aI Uv MJ.1 0 (bn _)
 simp only [MJ,cX,simprocAttr] at h
 exact h
def Jh:cI:={ n:=9,own:=[],lv:=[(0,[1,2]),(1,[4])],lp:=[] }
def ML:Cv aM Jh Tryz.f190:=by apply Subtype.mk; cbv
def aaj:=ML.1
def KW:=cL.mk 2 [.tmp 4] (sub aaj 0)
def adr:aG Tryz.prog Jh Tryz.f190=some KW:=cU (by kernel_rfl)
def aeX:=by
 have h:=aI aaj ML.1 0 (bn _)
 simp only [ML,cX,simprocAttr] at h
 exact h
def Jm:cI:={ n:=23,own:=[],lv:=[(0,[1,2,3]),(1,[1,2,3,14]),(2,[2,3,6]),(3,[1,2,3])],lp:=[(1,[1,2,3])] }
def MP:Cv aM Jm Tryz.f206:=by apply Subtype.mk; cbv
def Uw:=MP.1
def KY:=cL.mk 3 [] (sub Uw 0)
def ady:aG Tryz.prog Jm Tryz.f206=some KY:=cU (by kernel_rfl)
abbrev QC:=sub Uw 4
def FA:=by
 have h:=aI Uw MP.1 0 (bn _)
 simp only [MP,cX,simprocAttr] at h
 exact h
def IY:cI:={ n:=13,own:=[],lv:=[(0,[2,3,4]),(1,[2,3,4,7]),(2,[7]),(3,[6])],lp:=[] }
def Mt:Cv aM IY Tryz.f169:=by apply Subtype.mk; cbv
def Z8:=Mt.1
def KH:=cL.mk 3 [.tmp 6] (sub Z8 0)
def ac9:aG Tryz.prog IY Tryz.f169=some KH:=cU (by kernel_rfl)
def aeP:=by
 have h:=aI Z8 Mt.1 0 (bn _)
 simp only [Mt,cX,simprocAttr] at h
 exact h
def Jn:cI:={ n:=17,own:=[],lv:=[(0,[0,1,2]),(1,[0,2,6]),(2,[0,2,13]),(3,[2]),(4,[4])],lp:=[] }
def MQ:Cv aM Jn Tryz.f207:=by apply Subtype.mk; cbv
def aam:=MQ.1
def KZ:=cL.mk 3 [.tmp 4] (sub aam 0)
def adz:aG Tryz.prog Jn Tryz.f207=some KZ:=cU (by kernel_rfl)
def T7:=by
 have h:=aI aam MQ.1 0 (bn _)
 simp only [MQ,cX,simprocAttr] at h
 exact h
def IX:cI:={ n:=19,own:=[],lv:=[(0,[0,1]),(1,[0,1,7,8]),(2,[0,1,7,8,9]),(3,[0,1,5,7,8]),(4,[0,1,5,7,8,16]),(5,[4]),(6,[0,1,7,8]),(7,[4])],lp:=[(2,[0,1,7,8])] }
def Ms:Cv aM IX Tryz.f168:=by apply Subtype.mk; cbv
def Uq:=Ms.1
def EA:=cL.mk 2 [.tmp 4] (sub Uq 0)
def ac8:aG Tryz.prog IX Tryz.f168=some EA:=cU (by kernel_rfl)
abbrev Qw:=sub Uq 7
def zf:=by
 have h:=aI Uq Ms.1 0 (bn _)
 simp only [Ms,cX,simprocAttr] at h
 exact h
def Te:cI:={ n:=88,own:=[1000115,1000152,1000153],lv:=[(0,[1,2,3,4,5]),(1,[1,2,3,4,5,12,13]),(2,[1,2,3,4,5,12,26]),(3,[10,11]),(4,[1,2,3,4,5,30]),(5,[10,11]),(6,[1,2,3,4,5,14,15]),(7,[1,2,3,4,5,14,15,39]),(8,[1,14,40]),(9,[1]),(10,[10,11]),(11,[1,2,3,4,5,14,15,16]),(12,[1,3,4,14,15,16,17,18]),(13,[1,14,15,16,58]),(14,[10,11]),(15,[1,14,16,68]),(16,[1,14,16]),(17,[1]),(18,[10,11]),(19,[1,14,16,77]),(20,[10,11]),(21,[10,11])],lp:=[] }
def WR:Cv aM Te Tryz.f95:=by apply Subtype.mk; cbv
def b95:=WR.1
def K9:=cL.mk 5 [.tmp 10,.tmp 11] (sub b95 0)
def ai7:aG Tryz.prog Te Tryz.f95=some K9:=cU (by kernel_rfl)
def YO:=by
 have h:=aI b95 WR.1 0 (bn _)
 simp only [WR,cX,simprocAttr] at h
 exact h
def Ja:cI:={ n:=18,own:=[],lv:=[(0,[0]),(1,[0,3]),(2,[3,6,7,8]),(3,[3,6,7,8,9]),(4,[3,5,6,7,8]),(5,[3,5,6,7,8,14]),(6,[2]),(7,[3,6,7,8]),(8,[2])],lp:=[(3,[3,6,7,8])] }
def MC:Cv aM Ja Tryz.f181:=by apply Subtype.mk; cbv
def aae:=MC.1
def EB:=cL.mk 1 [.tmp 2] (sub aae 0)
def adk:aG Tryz.prog Ja Tryz.f181=some EB:=cU (by kernel_rfl)
def Ah:=by
 have h:=aI aae MC.1 0 (bn _)
 simp only [MC,cX,simprocAttr] at h
 exact h
def Sf:cI:={ n:=9,own:=[],lv:=[(0,[1,2]),(1,[2])],lp:=[] }
def VU:Cv aM Sf Tryz.f25:=by apply Subtype.mk; cbv
def b25:=VU.1
def UX:=cL.mk 1 [.eW 2 8] (sub b25 0)
def aid:aG Tryz.prog Sf Tryz.f25=some UX:=cU (by kernel_rfl)
def E25:=by
 have h:=aI b25 VU.1 0 (bn _)
 simp only [VU,cX,simprocAttr] at h
 exact h
def IG:cI:={ n:=10,own:=[],lv:=[(0,[0,4,5]),(1,[6])],lp:=[] }
def Md:Cv aM IG Tryz.f148:=by apply Subtype.mk; cbv
def ZY:=Md.1
def Ku:=cL.mk 3 [.tmp 6] (sub ZY 0)
def acV:aG Tryz.prog IG Tryz.f148=some Ku:=cU (by kernel_rfl)
def aeJ:=by
 have h:=aI ZY Md.1 0 (bn _)
 simp only [Md,cX,simprocAttr] at h
 exact h
def Jf:cI:={ n:=15,own:=[],lv:=[(0,[1,2,3]),(1,[4])],lp:=[] }
def MI:Cv aM Jf Tryz.f188:=by apply Subtype.mk; cbv
def aai:=MI.1
def KU:=cL.mk 3 [.tmp 4] (sub aai 0)
def adp:aG Tryz.prog Jf Tryz.f188=some KU:=cU (by kernel_rfl)
def Ze:=by
 have h:=aI aai MI.1 0 (bn _)
 simp only [MI,cX,simprocAttr] at h
 exact h
def Je:cI:={ n:=9,own:=[],lv:=[(0,[0,1]),(1,[4])],lp:=[] }
def MH:Cv aM Je Tryz.f187:=by apply Subtype.mk; cbv
def aah:=MH.1
def KT:=cL.mk 2 [.tmp 4] (sub aah 0)
def ado:aG Tryz.prog Je Tryz.f187=some KT:=cU (by kernel_rfl)
def aeW:=by
 have h:=aI aah MH.1 0 (bn _)
 simp only [MH,cX,simprocAttr] at h
 exact h
def Jp:cI:={ n:=19,own:=[],lv:=[(0,[0,1]),(1,[0,1,7,8]),(2,[0,1,7,8,9]),(3,[0,1,5,7,8]),(4,[0,1,5,7,8,16]),(5,[4]),(6,[0,1,7,8]),(7,[4])],lp:=[(2,[0,1,7,8])] }
def MS:Cv aM Jp Tryz.f221:=by apply Subtype.mk; cbv
def Uy:=MS.1
def K1:=cL.mk 2 [.tmp 4] (sub Uy 0)
def adB:aG Tryz.prog Jp Tryz.f221=some K1:=cU (by kernel_rfl)
abbrev QE:=sub Uy 7
def Co:=by
 have h:=aI Uy MS.1 0 (bn _)
 simp only [MS,cX,simprocAttr] at h
 exact h
def IC:cI:={ n:=16,own:=[],lv:=[(0,[0,1]),(1,[5,6]),(2,[5,14]),(3,[4]),(4,[4])],lp:=[] }
def Mb:Cv aM IC Tryz.f146:=by apply Subtype.mk; cbv
def ZW:=Mb.1
def Ks:=cL.mk 2 [.tmp 4] (sub ZW 0)
def acT:aG Tryz.prog IC Tryz.f146=some Ks:=cU (by kernel_rfl)
def T3:=by
 have h:=aI ZW Mb.1 0 (bn _)
 simp only [Mb,cX,simprocAttr] at h
 exact h
def Jd:cI:={ n:=9,own:=[],lv:=[(0,[1,2]),(1,[4])],lp:=[] }
def MG:Cv aM Jd Tryz.f186:=by apply Subtype.mk; cbv
def aag:=MG.1
def KS:=cL.mk 2 [.tmp 4] (sub aag 0)
def adn:aG Tryz.prog Jd Tryz.f186=some KS:=cU (by kernel_rfl)
def aeV:=by
 have h:=aI aag MG.1 0 (bn _)
 simp only [MG,cX,simprocAttr] at h
 exact h
def IE:cI:={ n:=47,own:=[],lv:=[(0,[2,3]),(1,[4])],lp:=[] }
def Mc:Cv aM IE Tryz.f147:=by apply Subtype.mk; cbv
def ZX:=Mc.1
def Kt:=cL.mk 2 [.tmp 4] (sub ZX 0)
def acU:aG Tryz.prog IE Tryz.f147=some Kt:=cU (by kernel_rfl)
def Za:=by
 have h:=aI ZX Mc.1 0 (bn _)
 simp only [Mc,cX,simprocAttr] at h
 exact h
def Tb:cI:={ n:=123,own:=[8000145,1001004005],lv:=[(0,[2,3,4]),(1,[2,3,4,16]),(2,[4]),(3,[2,3,4,5]),(4,[2,3,4,5,32,33,34]),(5,[2,3,4,5,32,33,34,35]),(6,[2,3,4,5,6,7,32,33,34]),(7,[2,3,4,5,6,7,8,32,33,34]),(8,[2,3,4,5,6,7,32,33,34,67]),(9,[2,3,4,5,32,33,34]),(10,[2,3,4,5,32,33,34]),(11,[2,4,5,84,85,86]),(12,[2,4,5,84,85,86,87]),(13,[2,4,5,10,84,85,86]),(14,[2,4,5,10,11,84,85,86]),(15,[2,4,5,10,11,12,84,85,86]),(16,[2,4,5,11,12,84,85,86,109]),(17,[2,4,5,11,84,85,86]),(18,[2,4,5,84,85,86]),(19,[2,4,5,84,85,86]),(20,[4])],lp:=[(5,[2,3,4,5,32,33,34]),(12,[2,4,5,84,85,86])] }
def WN:Cv aM Tb Tryz.f91:=by apply Subtype.mk; cbv
def YR:=WN.1
def Vu:=cL.mk 2 [.eW 4 8] (sub YR 0)
def ai4:aG Tryz.prog Tb Tryz.f91=some Vu:=cU (by kernel_rfl)
abbrev Xm:=sub YR 17
abbrev Xn:=sub YR 40
abbrev Yn:=sub YR 62
abbrev Yo:=sub YR 35
def Pg:=by
 have h:=aI YR WN.1 0 (bn _)
 simp only [WN,cX,simprocAttr] at h
 exact h
def Tf:cI:={ n:=56,own:=[8000154],lv:=[(0,[1,2,4]),(1,[1,2,4,7,8]),(2,[1,2,4,7,17]),(3,[4,5,6]),(4,[1,2,4,21]),(5,[4,5,6]),(6,[1,2,4,26]),(7,[4,5,6]),(8,[1,2,4,9]),(9,[2,4,9]),(10,[2,4,9]),(11,[4,5,6])],lp:=[] }
def WS:Cv aM Tf Tryz.f96:=by apply Subtype.mk; cbv
def b96:=WS.1
def Vv:=cL.mk 2 [.eW 4 8,.tmp 5,.tmp 6] (sub b96 0)
def ai8:aG Tryz.prog Tf Tryz.f96=some Vv:=cU (by kernel_rfl)
def E96:=by
 have h:=aI b96 WS.1 0 (bn _)
 simp only [WS,cX,simprocAttr] at h
 exact h
def IK:cI:={ n:=74,own:=[6000012],lv:=[(0,[2,3]),(1,[2,3,6]),(2,[2,3,6,17,18,19]),(3,[2,3,6,17,18,19,20]),(4,[2,3,6,8,17,18,19]),(5,[2,3,6,8,17,18,19,34]),(6,[2,3,6,17,18,19]),(7,[2,3,6,17,18,19]),(8,[2,3,6,44,45,46]),(9,[2,3,6,44,45,46,47]),(10,[2,3,6,9,10,44,45,46]),(11,[2,3,6,10,44,45,46,58]),(12,[2,3,6,44,45,46]),(13,[2,3,6,44,45,46]),(14,[3,6,11]),(15,[3,6,11,12]),(16,[3,6,11,12,13]),(17,[3,12,13]),(18,[12,14]),(19,[12,14]),(20,[4,5])],lp:=[(3,[2,3,6,17,18,19]),(9,[2,3,6,44,45,46])] }
def Mi:Cv aM IK Tryz.f155:=by apply Subtype.mk; cbv
def FI:=Mi.1
def Ky:=cL.mk 2 [.tmp 4,.tmp 5] (sub FI 0)
def acZ:aG Tryz.prog IK Tryz.f155=some Ky:=cU (by kernel_rfl)
abbrev Qs:=sub FI 9
abbrev Qt:=sub FI 30
abbrev Rs:=sub FI 46
abbrev Ru:=sub FI 25
def ze:=by
 have h:=aI FI Mi.1 0 (bn _)
 simp only [Mi,cX,simprocAttr] at h
 exact h
def Ji:cI:={ n:=52,own:=[],lv:=[(0,[0,1,2,3,4]),(1,[0,1,2,3,4,8]),(2,[0,1,2,3,4,20]),(3,[6]),(4,[0,2,3,4]),(5,[3,4,9,10]),(6,[3,4,9,31]),(7,[6]),(8,[4,9]),(9,[4,9,11]),(10,[4,11,37,38,39]),(11,[4,11,37,38,39,40]),(12,[4,11,13,37,38,39]),(13,[4,11,37,38,39]),(14,[4,11,37,38,39]),(15,[6])],lp:=[(11,[4,11,37,38,39])] }
def MM:Cv aM Ji Tryz.f193:=by apply Subtype.mk; cbv
def Px:=MM.1
def Bc:=cL.mk 5 [.tmp 6] (sub Px 0)
def ads:aG Tryz.prog Ji Tryz.f193=some Bc:=cU (by kernel_rfl)
abbrev QB:=sub Px 33
abbrev Yj:=sub Px 45
def Fz:=by
 have h:=aI Px MM.1 0 (bn _)
 simp only [MM,cX,simprocAttr] at h
 exact h
def Jj:cI:={ n:=10,own:=[],lv:=[(0,[2,3]),(1,[4])],lp:=[] }
def abV:Cv aM Jj Tryz.f195:=by apply Subtype.mk; cbv
def afj:=abV.1
def TC:=cL.mk 2 [.tmp 4] (sub afj 0)
def adt:aG Tryz.prog Jj Tryz.f195=some TC:=cU (by kernel_rfl)
def Tg:cI:={ n:=32,own:=[],lv:=[(0,[1,2]),(1,[1,2,12,13,14]),(2,[1,2,12,13,14,15]),(3,[1,2,8,12,13,14]),(4,[1,2,8,12,13,14,21]),(5,[8,9]),(6,[4,5,6]),(7,[1,2,12,13,14]),(8,[4,5,6])],lp:=[(2,[1,2,12,13,14])] }
def WT:Cv aM Tg Tryz.f97:=by apply Subtype.mk; cbv
def b97:=WT.1
def Vw:=cL.mk 2 [.tmp 4,.tmp 5,.tmp 6] (sub b97 0)
def ai9:aG Tryz.prog Tg Tryz.f97=some Vw:=cU (by kernel_rfl)
abbrev Xo:=sub b97 7
abbrev adT:=sub b97 27
def E97:=by
 have h:=aI b97 WT.1 0 (bn _)
 simp only [WT,cX,simprocAttr] at h
 exact h
def IL:cI:={ n:=23,own:=[5],lv:=[(0,[0,1]),(1,[0,1,5]),(2,[1,5,8,9,10]),(3,[1,5,8,9,10,11]),(4,[1,5,7,8,9,10]),(5,[1,5,7,8,9,10,16]),(6,[1,5,8,9,10]),(7,[1,5,8,9,10]),(8,[4])],lp:=[(3,[1,5,8,9,10])] }
def Mj:Cv aM IL Tryz.f157:=by apply Subtype.mk; cbv
def Un:=Mj.1
def Kz:=cL.mk 2 [.tmp 4] (sub Un 0)
def ac0:aG Tryz.prog IL Tryz.f157=some Kz:=cU (by kernel_rfl)
abbrev Qu:=sub Un 9
def O5:=by
 have h:=aI Un Mj.1 0 (bn _)
 simp only [Mj,cX,simprocAttr] at h
 exact h
def IM:cI:={ n:=8,own:=[],lv:=[(0,[1,2]),(1,[3])],lp:=[] }
def Ml:Cv aM IM Tryz.f158:=by apply Subtype.mk; cbv
def Z2:=Ml.1
def KA:=cL.mk 2 [.tmp 3] (sub Z2 0)
def ac1:aG Tryz.prog IM Tryz.f158=some KA:=cU (by kernel_rfl)
def aeL:=by
 have h:=aI Z2 Ml.1 0 (bn _)
 simp only [Ml,cX,simprocAttr] at h
 exact h
def IP:cI:={ n:=23,own:=[5],lv:=[(0,[0,1]),(1,[0,1,5]),(2,[1,5,8,9,10]),(3,[1,5,8,9,10,11]),(4,[1,5,7,8,9,10]),(5,[1,5,7,8,9,10,16]),(6,[1,5,8,9,10]),(7,[1,5,8,9,10]),(8,[4])],lp:=[(3,[1,5,8,9,10])] }
def Mm:Cv aM IP Tryz.f159:=by apply Subtype.mk; cbv
def Uo:=Mm.1
def KB:=cL.mk 2 [.tmp 4] (sub Uo 0)
def ac2:aG Tryz.prog IP Tryz.f159=some KB:=cU (by kernel_rfl)
abbrev Qv:=sub Uo 9
def O6:=by
 have h:=aI Uo Mm.1 0 (bn _)
 simp only [Mm,cX,simprocAttr] at h
 exact h
def IQ:cI:={ n:=10,own:=[],lv:=[(0,[1,2]),(1,[3])],lp:=[] }
def Mn:Cv aM IQ Tryz.f160:=by apply Subtype.mk; cbv
def Z3:=Mn.1
def KC:=cL.mk 2 [.tmp 3] (sub Z3 0)
def ac3:aG Tryz.prog IQ Tryz.f160=some KC:=cU (by kernel_rfl)
def aeM:=by
 have h:=aI Z3 Mn.1 0 (bn _)
 simp only [Mn,cX,simprocAttr] at h
 exact h
def HV:cI:={ n:=26,own:=[],lv:=[(0,[2,3,4]),(1,[2,4,6]),(2,[2,4,6,16]),(3,[4,5]),(4,[2,4,6]),(5,[2,4]),(6,[4,5])],lp:=[] }
def Lz:Cv aM HV Tryz.f101:=by apply Subtype.mk; cbv
def Zv:=Lz.1
def JW:=cL.mk 2 [.eW 4 8,.tmp 5] (sub Zv 0)
def acg:aG Tryz.prog HV Tryz.f101=some JW:=cU (by kernel_rfl)
def Y4:=by
 have h:=aI Zv Lz.1 0 (bn _)
 simp only [Lz,cX,simprocAttr] at h
 exact h
def Sl:cI:={ n:=26,own:=[],lv:=[(0,[0,1]),(1,[0,1,10]),(2,[4]),(3,[0,1,12,13]),(4,[0,1,12,13,14]),(5,[0,1,5,12,13]),(6,[0,1,12,13,24]),(7,[4]),(8,[0,1,12,13]),(9,[4])],lp:=[(4,[0,1,12,13])] }
def V0:Cv aM Sl Tryz.f34:=by apply Subtype.mk; cbv
def b34:=V0.1
def U2:=cL.mk 2 [.tmp 4] (sub b34 0)
def aik:aG Tryz.prog Sl Tryz.f34=some U2:=cU (by kernel_rfl)
abbrev Xa:=sub b34 15
def O9:=by
 have h:=aI b34 V0.1 0 (bn _)
 simp only [V0,cX,simprocAttr] at h
 exact h
def Sm:cI:={ n:=32,own:=[],lv:=[(0,[0,1,2]),(1,[0,1,2,14]),(2,[6]),(3,[1,2,15,16,17]),(4,[1,2,15,16,17,18]),(5,[1,2,7,8,15,16,17]),(6,[1,2,8,9,15,16,17]),(7,[1,2,15,16,17,30]),(8,[6]),(9,[1,2,15,16,17]),(10,[6])],lp:=[(4,[1,2,15,16,17])] }
def V1:Cv aM Sm Tryz.f35:=by apply Subtype.mk; cbv
def b35:=V1.1
def U3:=cL.mk 3 [.tmp 6] (sub b35 0)
def ail:aG Tryz.prog Sm Tryz.f35=some U3:=cU (by kernel_rfl)
abbrev Xb:=sub b35 15
def Pa:=by
 have h:=aI b35 V1.1 0 (bn _)
 simp only [V1,cX,simprocAttr] at h
 exact h
def Sn:cI:={ n:=26,own:=[],lv:=[(0,[0,1]),(1,[0,1,10]),(2,[4]),(3,[0,1,12,13]),(4,[0,1,12,13,14]),(5,[0,1,5,12,13]),(6,[0,1,12,13,24]),(7,[4]),(8,[0,1,12,13]),(9,[4])],lp:=[(4,[0,1,12,13])] }
def V2:Cv aM Sn Tryz.f36:=by apply Subtype.mk; cbv
def b36:=V2.1
def U4:=cL.mk 2 [.tmp 4] (sub b36 0)
def aim:aG Tryz.prog Sn Tryz.f36=some U4:=cU (by kernel_rfl)
abbrev Xc:=sub b36 15
def Pb:=by
 have h:=aI b36 V2.1 0 (bn _)
 simp only [V2,cX,simprocAttr] at h
 exact h
def Sq:cI:={ n:=26,own:=[],lv:=[(0,[0,1]),(1,[0,1,10]),(2,[4]),(3,[0,1,12,13]),(4,[0,1,12,13,14]),(5,[0,1,5,12,13]),(6,[0,1,12,13,24]),(7,[4]),(8,[0,1,12,13]),(9,[4])],lp:=[(4,[0,1,12,13])] }
def V3:Cv aM Sq Tryz.f37:=by apply Subtype.mk; cbv
def b37:=V3.1
def U5:=cL.mk 2 [.tmp 4] (sub b37 0)
def ain:aG Tryz.prog Sq Tryz.f37=some U5:=cU (by kernel_rfl)
abbrev Xd:=sub b37 15
def Pc:=by
 have h:=aI b37 V3.1 0 (bn _)
 simp only [V3,cX,simprocAttr] at h
 exact h
def Sr:cI:={ n:=26,own:=[],lv:=[(0,[0,1]),(1,[0,1,10]),(2,[4]),(3,[0,1,12,13]),(4,[0,1,12,13,14]),(5,[0,1,5,12,13]),(6,[0,1,12,13,24]),(7,[4]),(8,[0,1,12,13]),(9,[4])],lp:=[(4,[0,1,12,13])] }
def V4:Cv aM Sr Tryz.f38:=by apply Subtype.mk; cbv
def b38:=V4.1
def U6:=cL.mk 2 [.tmp 4] (sub b38 0)
def aio:aG Tryz.prog Sr Tryz.f38=some U6:=cU (by kernel_rfl)
abbrev Xe:=sub b38 15
def Pd:=by
 have h:=aI b38 V4.1 0 (bn _)
 simp only [V4,cX,simprocAttr] at h
 exact h
end Go.Proofs.YtdbadpnkhaepnaaGreatDoor
set_option linter.defProp false
set_option maxRecDepth 100000
namespace Go.Proofs.YtdbadpnkhaepnaaGreatDoor
open Go Go.Abs
def R3:cI:={ n:=4,own:=[],lv:=[(0,[0]),(1,[0])],lp:=[] }
def VH:Cv aM R3 Tryz.f11:=by apply Subtype.mk; cbv
def b11:=VH.1
def UL:=cL.mk 0 [.eW 0 10] (sub b11 0)
def ah0:aG Tryz.prog R3 Tryz.f11=some UL:=cU (by kernel_rfl)
def E11:=by
 have h:=aI b11 VH.1 0 (bn _)
 simp only [VH,cX,simprocAttr] at h
 exact h
def Sh:cI:={ n:=11,own:=[],lv:=[(0,[0,1]),(1,[4,5])],lp:=[] }
def VW:Cv aM Sh Tryz.f27:=by apply Subtype.mk; cbv
def b27:=VW.1
def UZ:=cL.mk 2 [.tmp 4,.tmp 5] (sub b27 0)
def aif:aG Tryz.prog Sh Tryz.f27=some UZ:=cU (by kernel_rfl)
def E27:=by
 have h:=aI b27 VW.1 0 (bn _)
 simp only [VW,cX,simprocAttr] at h
 exact h
def Si:cI:={ n:=37,own:=[],lv:=[(0,[0,1,2]),(1,[1,2,7]),(2,[6]),(3,[1,2,16]),(4,[6]),(5,[26]),(6,[6]),(7,[6])],lp:=[] }
def VX:Cv aM Si Tryz.f29:=by apply Subtype.mk; cbv
def b29:=VX.1
def zy:=cL.mk 3 [.tmp 6] (sub b29 0)
def aih:aG Tryz.prog Si Tryz.f29=some zy:=cU (by kernel_rfl)
def T8:=by
 have h:=aI b29 VX.1 0 (bn _)
 simp only [VX,cX,simprocAttr] at h
 exact h
def St:cI:={ n:=8,own:=[],lv:=[(0,[1,5]),(1,[])],lp:=[] }
def V6:Cv aM St Tryz.f41:=by apply Subtype.mk; cbv
def b41:=V6.1
def U8:=cL.mk 2 [] (sub b41 0)
def aiq:aG Tryz.prog St Tryz.f41=some U8:=cU (by kernel_rfl)
def E41:=by
 have h:=aI b41 V6.1 0 (bn _)
 simp only [V6,cX,simprocAttr] at h
 exact h
def SV:cI:={ n:=6,own:=[],lv:=[(0,[0,3]),(1,[])],lp:=[] }
def Wx:Cv aM SV Tryz.f72:=by apply Subtype.mk; cbv
def b72:=Wx.1
def Vh:=cL.mk 1 [] (sub b72 0)
def aiP:aG Tryz.prog SV Tryz.f72=some Vh:=cU (by kernel_rfl)
def E72:=by
 have h:=aI b72 Wx.1 0 (bn _)
 simp only [Wx,cX,simprocAttr] at h
 exact h
def SY:cI:={ n:=23,own:=[],lv:=[(0,[0,1,4]),(1,[0,4,5,6]),(2,[0,4,5]),(3,[4])],lp:=[] }
def Wz:Cv aM SY Tryz.f78:=by apply Subtype.mk; cbv
def b78:=Wz.1
def Vj:=cL.mk 2 [.eW 4 6] (sub b78 0)
def aiR:aG Tryz.prog SY Tryz.f78=some Vj:=cU (by kernel_rfl)
def E78:=by
 have h:=aI b78 Wz.1 0 (bn _)
 simp only [Wz,cX,simprocAttr] at h
 exact h
def HY:cI:={ n:=19,own:=[],lv:=[(0,[0,1,4]),(1,[4,5]),(2,[4])],lp:=[] }
def LC:Cv aM HY Tryz.f105:=by apply Subtype.mk; cbv
def Zw:=LC.1
def JZ:=cL.mk 2 [.eW 4 6] (sub Zw 0)
def acj:aG Tryz.prog HY Tryz.f105=some JZ:=cU (by kernel_rfl)
def aey:=by
 have h:=aI Zw LC.1 0 (bn _)
 simp only [LC,cX,simprocAttr] at h
 exact h
def SZ:cI:={ n:=33,own:=[],lv:=[(0,[0,1]),(1,[0,6,7,8]),(2,[0,6,7]),(3,[6,8,9]),(4,[6,9]),(5,[4,5])],lp:=[] }
def WA:Cv aM SZ Tryz.f79:=by apply Subtype.mk; cbv
def b79:=WA.1
def Vk:=cL.mk 2 [.tmp 4,.tmp 5] (sub b79 0)
def aiS:aG Tryz.prog SZ Tryz.f79=some Vk:=cU (by kernel_rfl)
def E79:=by
 have h:=aI b79 WA.1 0 (bn _)
 simp only [WA,cX,simprocAttr] at h
 exact h
def S1:cI:={ n:=83,own:=[1000115],lv:=[(0,[0,2,4]),(1,[0,2,4,13,14,15]),(2,[0,2,4,13,14,15,16]),(3,[0,2,4,7,13,14,15]),(4,[0,2,4,7,13,14,15,26]),(5,[0,2,4,13,14,15]),(6,[0,2,4,13,14,15]),(7,[0,2,4]),(8,[0,2,4]),(9,[0,2,4,42,43,44]),(10,[0,2,4,42,43,44,45]),(11,[0,2,4,9,42,43,44]),(12,[0,2,4,9,10,11,42,43,44]),(13,[0,2,4,42,43,44]),(14,[0,2,4,42,43,44]),(15,[])],lp:=[(2,[0,2,4,13,14,15]),(10,[0,2,4,42,43,44])] }
def WC:Cv aM S1 Tryz.f81:=by apply Subtype.mk; cbv
def YQ:=WC.1
def Vm:=cL.mk 3 [] (sub YQ 0)
def aiU:aG Tryz.prog S1 Tryz.f81=some Vm:=cU (by kernel_rfl)
abbrev Xk:=sub YQ 7
abbrev M5:=sub YQ 32
abbrev N9:=sub YQ 46
abbrev Ym:=sub YQ 23
def vn:=by
 have h:=aI YQ WC.1 0 (bn _)
 simp only [WC,cX,simprocAttr] at h
 exact h
def H6:cI:={ n:=8,own:=[],lv:=[(0,[1,2]),(1,[3])],lp:=[] }
def LK:Cv aM H6 Tryz.f112:=by apply Subtype.mk; cbv
def ZC:=LK.1
def J5:=cL.mk 2 [.tmp 3] (sub ZC 0)
def acr:aG Tryz.prog H6 Tryz.f112=some J5:=cU (by kernel_rfl)
def aez:=by
 have h:=aI ZC LK.1 0 (bn _)
 simp only [LK,cX,simprocAttr] at h
 exact h
def H8:cI:={ n:=42,own:=[],lv:=[(0,[0,1]),(1,[0,1,5]),(2,[0,1,5,12]),(3,[4]),(4,[0,1,5,6]),(5,[0,1,5,6,19]),(6,[0,1,5,6]),(7,[0,1,5,6,7]),(8,[0,1,5,6,7,29]),(9,[0,1,5,6]),(10,[0,1,5,6]),(11,[0,5]),(12,[4])],lp:=[(5,[0,1,5,6])] }
def LM:Cv aM H8 Tryz.f114:=by apply Subtype.mk; cbv
def Uh:=LM.1
def A8:=cL.mk 2 [.tmp 4] (sub Uh 0)
def acu:aG Tryz.prog H8 Tryz.f114=some A8:=cU (by kernel_rfl)
abbrev Qn:=sub Uh 17
def zc:=by
 have h:=aI Uh LM.1 0 (bn _)
 simp only [LM,cX,simprocAttr] at h
 exact h
def H9:cI:={ n:=15,own:=[],lv:=[(0,[1,2]),(1,[5]),(2,[3])],lp:=[] }
def LN:Cv aM H9 Tryz.f116:=by apply Subtype.mk; cbv
def ZE:=LN.1
def J7:=cL.mk 2 [.tmp 3] (sub ZE 0)
def acv:aG Tryz.prog H9 Tryz.f116=some J7:=cU (by kernel_rfl)
def aeA:=by
 have h:=aI ZE LN.1 0 (bn _)
 simp only [LN,cX,simprocAttr] at h
 exact h
def Ib:cI:={ n:=70,own:=[],lv:=[(0,[1,2]),(1,[1,2,5]),(2,[1,2,5,17,18,19]),(3,[1,2,5,17,18,19,20]),(4,[1,2,5,7,17,18,19]),(5,[1,2,5,7,17,18,19,26]),(6,[1,2,5,7,8,17,18,19]),(7,[1,2,5,8,17,18,19,33,34,35]),(8,[1,2,5,8,17,18,19,33,34,35,36]),(9,[1,2,5,8,10,17,18,19,33,34,35]),(10,[1,2,5,8,10,11,17,18,19,33,34,35]),(11,[1,2,5,8,10,11,13,14,17,18,19,33,34,35]),(12,[1,2,5,8,10,17,18,19,33,34,35,63]),(13,[4]),(14,[1,2,5,8,17,18,19,33,34,35]),(15,[1,2,5,8,17,18,19,33,34,35]),(16,[1,2,5,17,18,19]),(17,[4])],lp:=[(3,[1,2,5,17,18,19]),(8,[1,2,5,8,17,18,19,33,34,35])] }
def LP:Cv aM Ib Tryz.f118:=by apply Subtype.mk; cbv
def FH:=LP.1
def J9:=cL.mk 2 [.tmp 4] (sub FH 0)
def acx:aG Tryz.prog Ib Tryz.f118=some J9:=cU (by kernel_rfl)
abbrev Qo:=sub FH 31
abbrev Rr:=sub FH 55
abbrev EO:=sub FH 9
abbrev Fg:=sub FH 56
def vC:=by
 have h:=aI FH LP.1 0 (bn _)
 simp only [LP,cX,simprocAttr] at h
 exact h
def S8:cI:={ n:=10,own:=[],lv:=[(0,[1]),(1,[2])],lp:=[] }
def WK:Cv aM S8 Tryz.f88:=by apply Subtype.mk; cbv
def b88:=WK.1
def Vs:=cL.mk 1 [.tmp 2] (sub b88 0)
def ai1:aG Tryz.prog S8 Tryz.f88=some Vs:=cU (by kernel_rfl)
def E88:=by
 have h:=aI b88 WK.1 0 (bn _)
 simp only [WK,cX,simprocAttr] at h
 exact h
def SD:cI:={ n:=18,own:=[],lv:=[(0,[0,2]),(1,[])],lp:=[] }
def Wf:Cv aM SD Tryz.f55:=by apply Subtype.mk; cbv
def b55:=Wf.1
def P0:=cL.mk 1 [] (sub b55 0)
def aiy:aG Tryz.prog SD Tryz.f55=some P0:=cU (by kernel_rfl)
def E55:=by
 have h:=aI b55 Wf.1 0 (bn _)
 simp only [Wf,cX,simprocAttr] at h
 exact h
def SE:cI:={ n:=55,own:=[],lv:=[(0,[0,2,3]),(1,[0,4,5,6]),(2,[0,4,5]),(3,[0,5]),(4,[])],lp:=[] }
def Wg:Cv aM SE Tryz.f56:=by apply Subtype.mk; cbv
def b56:=Wg.1
def Gm:=cL.mk 1 [] (sub b56 0)
def aiz:aG Tryz.prog SE Tryz.f56=some Gm:=cU (by kernel_rfl)
def E56:=by
 have h:=aI b56 Wg.1 0 (bn _)
 simp only [Wg,cX,simprocAttr] at h
 exact h
def SF:cI:={ n:=54,own:=[],lv:=[(0,[0,2]),(1,[0,2,3,4]),(2,[0,2,5,6]),(3,[0,2,5]),(4,[0,2]),(5,[])],lp:=[] }
def Wh:Cv aM SF Tryz.f57:=by apply Subtype.mk; cbv
def b57:=Wh.1
def Dc:=cL.mk 1 [] (sub b57 0)
def aiA:aG Tryz.prog SF Tryz.f57=some Dc:=cU (by kernel_rfl)
def Zf:=by
 have h:=aI b57 Wh.1 0 (bn _)
 simp only [Wh,cX,simprocAttr] at h
 exact h
def SG:cI:={ n:=45,own:=[],lv:=[(0,[0,2,3]),(1,[0,4,5,6]),(2,[0,4,5]),(3,[0,5]),(4,[])],lp:=[] }
def Wi:Cv aM SG Tryz.f58:=by apply Subtype.mk; cbv
def b58:=Wi.1
def Gn:=cL.mk 1 [] (sub b58 0)
def aiB:aG Tryz.prog SG Tryz.f58=some Gn:=cU (by kernel_rfl)
def E58:=by
 have h:=aI b58 Wi.1 0 (bn _)
 simp only [Wi,cX,simprocAttr] at h
 exact h
def SH:cI:={ n:=74,own:=[],lv:=[(0,[0,2,3]),(1,[0,2,3,4,5]),(2,[0,2,3,4,5,6,7]),(3,[0,2,3,4,5,6]),(4,[0,6,7,8]),(5,[0,6,8]),(6,[0,6]),(7,[])],lp:=[] }
def Wj:Cv aM SH Tryz.f59:=by apply Subtype.mk; cbv
def b59:=Wj.1
def Bg:=cL.mk 1 [] (sub b59 0)
def aiC:aG Tryz.prog SH Tryz.f59=some Bg:=cU (by kernel_rfl)
def YM:=by
 have h:=aI b59 Wj.1 0 (bn _)
 simp only [Wj,cX,simprocAttr] at h
 exact h
def SI:cI:={ n:=45,own:=[],lv:=[(0,[0,2]),(1,[0,3,4,5]),(2,[0,3,4]),(3,[])],lp:=[] }
def Wl:Cv aM SI Tryz.f60:=by apply Subtype.mk; cbv
def b60:=Wl.1
def K2:=cL.mk 1 [] (sub b60 0)
def aiD:aG Tryz.prog SI Tryz.f60=some K2:=cU (by kernel_rfl)
def E60:=by
 have h:=aI b60 Wl.1 0 (bn _)
 simp only [Wl,cX,simprocAttr] at h
 exact h
def S7:cI:={ n:=19,own:=[3],lv:=[(0,[0]),(1,[0,3]),(2,[3,6,7,8]),(3,[3,6,7,8,9]),(4,[3,5,6,7,8]),(5,[3,6,7,8]),(6,[3,6,7,8]),(7,[2])],lp:=[(3,[3,6,7,8])] }
def WJ:Cv aM S7 Tryz.f87:=by apply Subtype.mk; cbv
def b87:=WJ.1
def Vr:=cL.mk 1 [.tmp 2] (sub b87 0)
def ai0:aG Tryz.prog S7 Tryz.f87=some Vr:=cU (by kernel_rfl)
abbrev Xl:=sub b87 9
abbrev adS:=sub b87 21
def E87:=by
 have h:=aI b87 WJ.1 0 (bn _)
 simp only [WJ,cX,simprocAttr] at h
 exact h
def SJ:cI:={ n:=22,own:=[],lv:=[(0,[0,2]),(1,[])],lp:=[] }
def Wm:Cv aM SJ Tryz.f61:=by apply Subtype.mk; cbv
def b61:=Wm.1
def P1:=cL.mk 1 [] (sub b61 0)
def aiE:aG Tryz.prog SJ Tryz.f61=some P1:=cU (by kernel_rfl)
def E61:=by
 have h:=aI b61 Wm.1 0 (bn _)
 simp only [Wm,cX,simprocAttr] at h
 exact h
def SK:cI:={ n:=52,own:=[],lv:=[(0,[0,2]),(1,[0,2,3,4]),(2,[0,2,3]),(3,[])],lp:=[] }
def Wn:Cv aM SK Tryz.f62:=by apply Subtype.mk; cbv
def b62:=Wn.1
def K3:=cL.mk 1 [] (sub b62 0)
def aiF:aG Tryz.prog SK Tryz.f62=some K3:=cU (by kernel_rfl)
def E62:=by
 have h:=aI b62 Wn.1 0 (bn _)
 simp only [Wn,cX,simprocAttr] at h
 exact h
def SL:cI:={ n:=49,own:=[],lv:=[(0,[0,2,3,4]),(1,[0,2,3]),(2,[])],lp:=[] }
def Wo:Cv aM SL Tryz.f63:=by apply Subtype.mk; cbv
def b63:=Wo.1
def P2:=cL.mk 1 [] (sub b63 0)
def aiG:aG Tryz.prog SL Tryz.f63=some P2:=cU (by kernel_rfl)
def E63:=by
 have h:=aI b63 Wo.1 0 (bn _)
 simp only [Wo,cX,simprocAttr] at h
 exact h
def Tc:cI:={ n:=36,own:=[],lv:=[(0,[0,2]),(1,[0,2,3,4]),(2,[0,2,3]),(3,[0,2,3]),(4,[2])],lp:=[] }
def WO:Cv aM Tc Tryz.f92:=by apply Subtype.mk; cbv
def b92:=WO.1
def K7:=cL.mk 1 [.eW 2 6] (sub b92 0)
def ai5:aG Tryz.prog Tc Tryz.f92=some K7:=cU (by kernel_rfl)
def E92:=by
 have h:=aI b92 WO.1 0 (bn _)
 simp only [WO,cX,simprocAttr] at h
 exact h
def SM:cI:={ n:=50,own:=[],lv:=[(0,[0,2]),(1,[0,2]),(2,[0,2,3]),(3,[])],lp:=[] }
def Wp:Cv aM SM Tryz.f64:=by apply Subtype.mk; cbv
def b64:=Wp.1
def Dd:=cL.mk 1 [] (sub b64 0)
def aiH:aG Tryz.prog SM Tryz.f64=some Dd:=cU (by kernel_rfl)
def Zg:=by
 have h:=aI b64 Wp.1 0 (bn _)
 simp only [Wp,cX,simprocAttr] at h
 exact h
def Td:cI:={ n:=37,own:=[],lv:=[(0,[0,1,2,6,7]),(1,[0,1,2,6]),(2,[0,1,2]),(3,[])],lp:=[] }
def WQ:Cv aM Td Tryz.f94:=by apply Subtype.mk; cbv
def b94:=WQ.1
def K8:=cL.mk 3 [] (sub b94 0)
def ai6:aG Tryz.prog Td Tryz.f94=some K8:=cU (by kernel_rfl)
def E94:=by
 have h:=aI b94 WQ.1 0 (bn _)
 simp only [WQ,cX,simprocAttr] at h
 exact h
def SN:cI:={ n:=64,own:=[1000093,2000094],lv:=[(0,[0,2]),(1,[0,2]),(2,[0,2,3]),(3,[0,2,3]),(4,[0,2,3,4]),(5,[0,2,3,4,38]),(6,[0,2,4]),(7,[0,2,4]),(8,[])],lp:=[] }
def Wq:Cv aM SN Tryz.f65:=by apply Subtype.mk; cbv
def b65:=Wq.1
def xA:=cL.mk 1 [] (sub b65 0)
def aiI:aG Tryz.prog SN Tryz.f65=some xA:=cU (by kernel_rfl)
def RY:=by
 have h:=aI b65 Wq.1 0 (bn _)
 simp only [Wq,cX,simprocAttr] at h
 exact h
def SO:cI:={ n:=21,own:=[],lv:=[(0,[0,2]),(1,[])],lp:=[] }
def Wr:Cv aM SO Tryz.f66:=by apply Subtype.mk; cbv
def b66:=Wr.1
def K4:=cL.mk 1 [] (sub b66 0)
def aiJ:aG Tryz.prog SO Tryz.f66=some K4:=cU (by kernel_rfl)
def E66:=by
 have h:=aI b66 Wr.1 0 (bn _)
 simp only [Wr,cX,simprocAttr] at h
 exact h
def SP:cI:={ n:=56,own:=[],lv:=[(0,[0,2]),(1,[0,2,3,4]),(2,[0,2,3]),(3,[0,2]),(4,[])],lp:=[] }
def Ws:Cv aM SP Tryz.f67:=by apply Subtype.mk; cbv
def b67:=Ws.1
def Gp:=cL.mk 1 [] (sub b67 0)
def aiK:aG Tryz.prog SP Tryz.f67=some Gp:=cU (by kernel_rfl)
def E67:=by
 have h:=aI b67 Ws.1 0 (bn _)
 simp only [Ws,cX,simprocAttr] at h
 exact h
def SQ:cI:={ n:=37,own:=[],lv:=[(0,[0,2]),(1,[0,3,4,5]),(2,[0,3,4]),(3,[])],lp:=[] }
def Wt:Cv aM SQ Tryz.f68:=by apply Subtype.mk; cbv
def b68:=Wt.1
def K5:=cL.mk 1 [] (sub b68 0)
def aiL:aG Tryz.prog SQ Tryz.f68=some K5:=cU (by kernel_rfl)
def E68:=by
 have h:=aI b68 Wt.1 0 (bn _)
 simp only [Wt,cX,simprocAttr] at h
 exact h
def SR:cI:={ n:=99,own:=[],lv:=[(0,[0,2,3,4]),(1,[0,2,3]),(2,[0,2,3,4,5]),(3,[0,2,3,5]),(4,[0,2,3,5,6]),(5,[0,2,5,6,42,43,44]),(6,[0,2,5,6,42,43,44,45]),(7,[0,2,5,6,8,42,43,44]),(8,[0,2,5,6,42,43,44]),(9,[0,2,5,6,42,43,44]),(10,[0,5,6,9]),(11,[0,6,9,56,57,58]),(12,[0,6,9,56,57,58,59]),(13,[0,6,9,11,56,57,58]),(14,[0,6,9,11,56,57,58]),(15,[0,6,9,12,56,57,58]),(16,[0,6,9,12,56,57,58]),(17,[0,6,9,56,57,58]),(18,[0,6,9,56,57,58]),(19,[])],lp:=[(6,[0,2,5,6,42,43,44]),(12,[0,6,9,56,57,58])] }
def Wu:Cv aM SR Tryz.f69:=by apply Subtype.mk; cbv
def YP:=Wu.1
def K6:=cL.mk 1 [] (sub YP 0)
def aiM:aG Tryz.prog SR Tryz.f69=some K6:=cU (by kernel_rfl)
abbrev Xi:=sub YP 15
abbrev Xj:=sub YP 34
abbrev Yk:=sub YP 52
abbrev Yl:=sub YP 27
def Ee:=by
 have h:=aI YP Wu.1 0 (bn _)
 simp only [Wu,cX,simprocAttr] at h
 exact h
def HU:cI:={ n:=8,own:=[],lv:=[(0,[1,2]),(1,[3])],lp:=[] }
def Ly:Cv aM HU Tryz.f100:=by apply Subtype.mk; cbv
def Zu:=Ly.1
def JV:=cL.mk 2 [.tmp 3] (sub Zu 0)
def acf:aG Tryz.prog HU Tryz.f100=some JV:=cU (by kernel_rfl)
def aex:=by
 have h:=aI Zu Ly.1 0 (bn _)
 simp only [Ly,cX,simprocAttr] at h
 exact h
def SS:cI:={ n:=25,own:=[],lv:=[(0,[0,2,3]),(1,[0,2]),(2,[])],lp:=[] }
def Wv:Cv aM SS Tryz.f70:=by apply Subtype.mk; cbv
def b70:=Wv.1
def P3:=cL.mk 1 [] (sub b70 0)
def aiN:aG Tryz.prog SS Tryz.f70=some P3:=cU (by kernel_rfl)
def E70:=by
 have h:=aI b70 Wv.1 0 (bn _)
 simp only [Wv,cX,simprocAttr] at h
 exact h
def SU:cI:={ n:=40,own:=[],lv:=[(0,[0,2,3]),(1,[])],lp:=[] }
def Ww:Cv aM SU Tryz.f71:=by apply Subtype.mk; cbv
def b71:=Ww.1
def Vg:=cL.mk 1 [] (sub b71 0)
def aiO:aG Tryz.prog SU Tryz.f71=some Vg:=cU (by kernel_rfl)
def E71:=by
 have h:=aI b71 Ww.1 0 (bn _)
 simp only [Ww,cX,simprocAttr] at h
 exact h
def Ss:cI:={ n:=3,own:=[],lv:=[(0,[]),(1,[0])],lp:=[] }
def V5:Cv aM Ss Tryz.f40:=by apply Subtype.mk; cbv
def b40:=V5.1
def U7:=cL.mk 0 [.tmp 0] (sub b40 0)
def aip:aG Tryz.prog Ss Tryz.f40=some U7:=cU (by kernel_rfl)
def E40:=by
 have h:=aI b40 V5.1 0 (bn _)
 simp only [V5,cX,simprocAttr] at h
 exact h
def R9:cI:={ n:=67,own:=[],lv:=[(0,[2,3]),(1,[2,3,5]),(2,[2,3,5,6,7]),(3,[4])],lp:=[] }
def VN:Cv aM R9 Tryz.f17:=by apply Subtype.mk; cbv
def b17:=VN.1
def UO:=cL.mk 2 [.tmp 4] (sub b17 0)
def ah6:aG Tryz.prog R9 Tryz.f17=some UO:=cU (by kernel_rfl)
def E17:=by
 have h:=aI b17 VN.1 0 (bn _)
 simp only [VN,cX,simprocAttr] at h
 exact h
def Sj:cI:={ n:=28,own:=[],lv:=[(0,[2,3]),(1,[4])],lp:=[] }
def VY:Cv aM Sj Tryz.f32:=by apply Subtype.mk; cbv
def b32:=VY.1
def U0:=cL.mk 2 [.tmp 4] (sub b32 0)
def aii:aG Tryz.prog Sj Tryz.f32=some U0:=cU (by kernel_rfl)
def E32:=by
 have h:=aI b32 VY.1 0 (bn _)
 simp only [VY,cX,simprocAttr] at h
 exact h
end Go.Proofs.YtdbadpnkhaepnaaGreatDoor
set_option linter.defProp false
set_option maxRecDepth 100000
namespace Go.Proofs.YtdbadpnkhaepnaaGreatDoor
open Go Go.Abs
def R4:cI:={ n:=79,own:=[1000030,1000031],lv:=[(0,[1,2,3,5,9,10,12]),(1,[1,2,3,5,9,10,12,13,14]),(2,[1,2,3,5,9,10,12,13,14,15]),(3,[1,2,3,5,9,10,12,13,14,15,27]),(4,[1,2,3,5,9,10,12,13,14,15]),(5,[1,2,3,5,9,10,12,13,14,15,16]),(6,[1,2,3,5,9,10,12,13,14,15,16,38]),(7,[10,11,12]),(8,[1,2,3,5,9,10,12,13,14,15,47]),(9,[10,11,12]),(10,[1,2,3,5,9,10,12,13,14,15]),(11,[1,2,3,10,12,13,14,15,17,18]),(12,[1,2,3,10,12,13,14,15,17,18]),(13,[1,2,3,10,12,13,15,17,18,63]),(14,[1,2,3,10,12,13,17,18]),(15,[1,10,12,17,18]),(16,[10,11,12])],lp:=[] }
def VI:Cv aM R4 Tryz.f12:=by apply Subtype.mk; cbv
def b12:=VI.1
def A9:=cL.mk 5 [.eW 10 10,.tmp 11,.eW 12 7] (sub b12 0)
def ah1:aG Tryz.prog R4 Tryz.f12=some A9:=cU (by kernel_rfl)
def YL:=by
 have h:=aI b12 VI.1 0 (bn _)
 simp only [VI,cX,simprocAttr] at h
 exact h
def Su:cI:={ n:=49,own:=[],lv:=[(0,[0,1,2]),(1,[0,1,2,8]),(2,[0,1,2,8,9,10]),(3,[0,1,2,8,9,10,17]),(4,[0,1,2,8,9,10,11]),(5,[0,1,2,8,9,10,11,31]),(6,[0,1,2,8,9,10]),(7,[0,1,2,8,9,10]),(8,[6,7])],lp:=[(3,[0,1,2,8,9,10])] }
def V7:Cv aM Su Tryz.f42:=by apply Subtype.mk; cbv
def b42:=V7.1
def U9:=cL.mk 3 [.tmp 6,.tmp 7] (sub b42 0)
def air:aG Tryz.prog Su Tryz.f42=some U9:=cU (by kernel_rfl)
abbrev Xf:=sub b42 9
def RX:=by
 have h:=aI b42 V7.1 0 (bn _)
 simp only [V7,cX,simprocAttr] at h
 exact h
def Sw:cI:={ n:=9,own:=[],lv:=[(0,[1,2]),(1,[4])],lp:=[] }
def V8:Cv aM Sw Tryz.f43:=by apply Subtype.mk; cbv
def b43:=V8.1
def Va:=cL.mk 2 [.tmp 4] (sub b43 0)
def ais:aG Tryz.prog Sw Tryz.f43=some Va:=cU (by kernel_rfl)
def E43:=by
 have h:=aI b43 V8.1 0 (bn _)
 simp only [V8,cX,simprocAttr] at h
 exact h
def Sc:cI:={ n:=46,own:=[],lv:=[(0,[0]),(1,[0,5,6,7]),(2,[0,5,6,7,8]),(3,[0,3,4,5,6,7]),(4,[0,5,6,7,44]),(5,[2]),(6,[0,5,6,7]),(7,[2])],lp:=[(2,[0,5,6,7])] }
def VQ:Cv aM Sc Tryz.f21:=by apply Subtype.mk; cbv
def b21:=VQ.1
def US:=cL.mk 1 [.tmp 2] (sub b21 0)
def ah9:aG Tryz.prog Sc Tryz.f21=some US:=cU (by kernel_rfl)
abbrev W8:=sub b21 7
def Cm:=by
 have h:=aI b21 VQ.1 0 (bn _)
 simp only [VQ,cX,simprocAttr] at h
 exact h
def R5:cI:={ n:=32,own:=[],lv:=[(0,[0,1,2]),(1,[0,1,2,13]),(2,[6]),(3,[2,7]),(4,[2,7,23]),(5,[6]),(6,[31]),(7,[6]),(8,[6])],lp:=[] }
def VJ:Cv aM R5 Tryz.f13:=by apply Subtype.mk; cbv
def b13:=VJ.1
def zx:=cL.mk 3 [.tmp 6] (sub b13 0)
def ah2:aG Tryz.prog R5 Tryz.f13=some zx:=cU (by kernel_rfl)
def T2:=by
 have h:=aI b13 VJ.1 0 (bn _)
 simp only [VJ,cX,simprocAttr] at h
 exact h
def R6:cI:={ n:=16,own:=[],lv:=[(0,[0,1]),(1,[0,5]),(2,[0,5,10]),(3,[4]),(4,[4])],lp:=[] }
def VK:Cv aM R6 Tryz.f14:=by apply Subtype.mk; cbv
def b14:=VK.1
def PZ:=cL.mk 2 [.tmp 4] (sub b14 0)
def ah3:aG Tryz.prog R6 Tryz.f14=some PZ:=cU (by kernel_rfl)
def E14:=by
 have h:=aI b14 VK.1 0 (bn _)
 simp only [VK,cX,simprocAttr] at h
 exact h
def R7:cI:={ n:=57,own:=[],lv:=[(0,[0,1]),(1,[0,1,11]),(2,[4]),(3,[0,1,5]),(4,[0,1,5,15]),(5,[0,1,5]),(6,[0,1,5,6]),(7,[0,1,5,56]),(8,[4]),(9,[4])],lp:=[(4,[0,1,5])] }
def VL:Cv aM R7 Tryz.f15:=by apply Subtype.mk; cbv
def b15:=VL.1
def UM:=cL.mk 2 [.tmp 4] (sub b15 0)
def ah4:aG Tryz.prog R7 Tryz.f15=some UM:=cU (by kernel_rfl)
abbrev WY:=sub b15 15
def T5:=by
 have h:=aI b15 VL.1 0 (bn _)
 simp only [VL,cX,simprocAttr] at h
 exact h
def R8:cI:={ n:=94,own:=[],lv:=[(0,[2,3]),(1,[2,3,57]),(2,[4]),(3,[2,3,5]),(4,[2,3,5,62]),(5,[2,3,5]),(6,[2,3,5,75]),(7,[4]),(8,[2,3,6]),(9,[2,3,6,80]),(10,[2,3,6]),(11,[2,3,6,93]),(12,[4]),(13,[4])],lp:=[(4,[2,3,5]),(9,[2,3,6])] }
def VM:Cv aM R8 Tryz.f16:=by apply Subtype.mk; cbv
def b16:=VM.1
def UN:=cL.mk 2 [.tmp 4] (sub b16 0)
def ah5:aG Tryz.prog R8 Tryz.f16=some UN:=cU (by kernel_rfl)
abbrev WZ:=sub b16 15
abbrev W0:=sub b16 36
def OY:=by
 have h:=aI b16 VM.1 0 (bn _)
 simp only [VM,cX,simprocAttr] at h
 exact h
def Sa:cI:={ n:=20,own:=[],lv:=[(0,[0,1]),(1,[0,1,5]),(2,[0,1,5,9]),(3,[0,1,5]),(4,[0,1,5,18]),(5,[4]),(6,[4])],lp:=[(2,[0,1,5])] }
def VO:Cv aM Sa Tryz.f18:=by apply Subtype.mk; cbv
def b18:=VO.1
def UQ:=cL.mk 2 [.tmp 4] (sub b18 0)
def ah7:aG Tryz.prog Sa Tryz.f18=some UQ:=cU (by kernel_rfl)
abbrev W6:=sub b18 7
def Zd:=by
 have h:=aI b18 VO.1 0 (bn _)
 simp only [VO,cX,simprocAttr] at h
 exact h
def Sb:cI:={ n:=59,own:=[10],lv:=[(0,[0,1,2,7]),(1,[0,1,9]),(2,[0,1,9,10]),(3,[0,1,9,10,11]),(4,[0,1,9,10,11,12]),(5,[0,1,9,10,11,12,20]),(6,[0,1,9,10,11,12]),(7,[0,1,9,10,11,12,33]),(8,[0,1,9,10,12]),(9,[0,1,9,10,11,12]),(10,[0,1,9,10,11,12,44]),(11,[0,1,9,10,11,12]),(12,[9,10,53]),(13,[10]),(14,[8])],lp:=[(5,[0,1,9,10,11,12])] }
def VP:Cv aM Sb Tryz.f20:=by apply Subtype.mk; cbv
def b20:=VP.1
def UR:=cL.mk 4 [.tmp 8] (sub b20 0)
def ah8:aG Tryz.prog Sb Tryz.f20=some UR:=cU (by kernel_rfl)
abbrev W7:=sub b20 13
def E20:=by
 have h:=aI b20 VP.1 0 (bn _)
 simp only [VP,cX,simprocAttr] at h
 exact h
def TT:br :=
 (.seq (.region [
 ob 2 (.mv (.pf (.bool false)))] false [2]) (.ret))
def TU:br :=
 (.region [
 ob 8 (.mv (.tmp 3)),
 ob 9 (.bin .add (.tmp 8) (.pf (.int .i64 1))),
 ob 3 (.mv (.tmp 9))] false [0,3])
def TV:br :=
 (.seq (.block 1 (.seq (.region [
 ob 10 (.mv (.tmp 0)),
 ob 11 (.mv (.tmp 3)),
 ob 12 (.oO 9 (.tmp 10) (.tmp 11)),
 ob 13 (.k9 0 (.tmp 12)),
 ob 14 (.iL (.tmp 13)),
 ob 15 (.bin .lss (.tmp 14) (.pf (.int .i64 0))),
 ob 16 (.mv (.tmp 15)),
 og 17 16 false (.mv (.tmp 0)),
 og 18 16 false (.mv (.tmp 3)),
 og 19 16 false (.oO 9 (.tmp 17) (.tmp 18)),
 og 20 16 false (.k9 0 (.tmp 19)),
 og 21 16 false (.iL (.tmp 20)),
 og 22 16 false (.bin .gtr (.tmp 21) (.pf (.int .i64 15))),
 ob 23 (.pick (.tmp 16) (.pf (.bool true)) (.tmp 22)),
 ob 24 (.mv (.tmp 23)),
 og 25 24 false (.mv (.tmp 0)),
 og 26 24 false (.mv (.tmp 3)),
 og 27 24 false (.oO 9 (.tmp 25) (.tmp 26)),
 og 28 24 false (.k9 1 (.tmp 27)),
 og 29 24 false (.iL (.tmp 28)),
 og 30 24 false (.bin .lss (.tmp 29) (.pf (.int .i64 1))),
 ob 31 (.pick (.tmp 24) (.pf (.bool true)) (.tmp 30)),
 ob 32 (.mv (.tmp 31)),
 og 33 32 false (.mv (.tmp 0)),
 og 34 32 false (.mv (.tmp 3)),
 og 35 32 false (.oO 9 (.tmp 33) (.tmp 34)),
 og 36 32 false (.k9 1 (.tmp 35)),
 og 37 32 false (.iL (.tmp 36)),
 og 38 32 false (.bin .gtr (.tmp 37) (.pf (.int .i64 1099511627776))),
 ob 39 (.pick (.tmp 32) (.pf (.bool true)) (.tmp 38)),
 ob 40 (.mv (.tmp 39)),
 og 41 40 false (.mv (.tmp 3)),
 og 42 40 false (.bin .gtr (.tmp 41) (.pf (.int .i64 0))),
 og 43 40 false (.mv (.tmp 42)),
 og 44 43 true (.mv (.tmp 0)),
 og 45 43 true (.mv (.tmp 3)),
 og 46 43 true (.oO 9 (.tmp 44) (.tmp 45)),
 og 47 43 true (.k9 0 (.tmp 46)),
 og 48 43 true (.iL (.tmp 47)),
 og 49 43 true (.mv (.tmp 0)),
 og 50 43 true (.mv (.tmp 3)),
 og 51 43 true (.bin .sub (.tmp 50) (.pf (.int .i64 1))),
 og 52 43 true (.oO 9 (.tmp 49) (.tmp 51)),
 og 53 43 true (.k9 0 (.tmp 52)),
 og 54 43 true (.iL (.tmp 53)),
 og 55 43 true (.bin .leq (.tmp 48) (.tmp 54)),
 og 56 40 false (.pick (.tmp 43) (.tmp 55) (.pf (.bool false))),
 ob 57 (.pick (.tmp 40) (.pf (.bool true)) (.tmp 56))] true [0,3,57]) (.cond (.tmp 57) TT (.skip)))) TU)
def Dq:br :=
 (.seq (.seq (.region [
 ob 4 (.mv (.tmp 3)),
 ob 5 (.mv (.tmp 0)),
 ob 6 (.GG (.tmp 5)),
 ob 7 (.bin .lss (.tmp 4) (.tmp 6))] false [0,3,7]) (.cond (.tmp 7) (.skip) (.exit 0))) TV)
def TW:br :=
 (.seq (.region [
 ob 2 (.mv (.pf (.bool true)))] false [2]) (.ret))
def TX:br :=
 (.seq (.seq (.region [
 ob 3 (.mv (.pf (.int .i64 0)))] false [0,3]) (.block 0 (.loop [0,3] Dq))) TW)
def Cn:=And.intro (lO TT.eq_1) (And.intro (lO TU.eq_1) (And.intro (lO TV.eq_1) (And.intro (lO Dq.eq_1) (And.intro (lO TW.eq_1) (lO TX.eq_1)))))
def Zj:cI:={ n:=58,own:=[],lv:=[(0,[0]),(1,[0,3]),(2,[0,3,7]),(3,[0,3]),(4,[0,3,57]),(5,[2]),(6,[2])],lp:=[(2,[0,3])] }
def UT:cL:=cL.mk 1 [.tmp 2]
 (.seq (.region [
 ob 2 (.mv (.pf (.bool false)))] false [0]) TX)
def aia:aG Tryz.prog Zj Tryz.f22=some UT:=by kernel_rfl
def Se:cI:={ n:=5,own:=[],lv:=[(0,[0,2]),(1,[2])],lp:=[] }
def VT:Cv aM Se Tryz.f24:=by apply Subtype.mk; cbv
def b24:=VT.1
def UW:=cL.mk 1 [.eW 2 8] (sub b24 0)
def aic:aG Tryz.prog Se Tryz.f24=some UW:=cU (by kernel_rfl)
def E24:=by
 have h:=aI b24 VT.1 0 (bn _)
 simp only [VT,cX,simprocAttr] at h
 exact h
def R2:cI:={ n:=41,own:=[],lv:=[(0,[0]),(1,[0,6]),(2,[2]),(3,[0,3]),(4,[0,3,10]),(5,[0,3]),(6,[0,3,40]),(7,[2]),(8,[2])],lp:=[(4,[0,3])] }
def VG:Cv aM R2 Tryz.f10:=by apply Subtype.mk; cbv
def b10:=VG.1
def UK:=cL.mk 1 [.tmp 2] (sub b10 0)
def ahZ:aG Tryz.prog R2 Tryz.f10=some UK:=cU (by kernel_rfl)
abbrev WX:=sub b10 15
def Y3:=by
 have h:=aI b10 VG.1 0 (bn _)
 simp only [VG,cX,simprocAttr] at h
 exact h
def Sd:cI:={ n:=49,own:=[],lv:=[(0,[0,1,2]),(1,[0,1,2,8]),(2,[0,1,2,8,9]),(3,[0,1,2,8,9,10]),(4,[0,1,2,8,9,10,18]),(5,[0,1,2,8,9,10]),(6,[0,1,2,8,9,10,37]),(7,[0,1,2,8,9,10]),(8,[0,1,2,8,9,10]),(9,[6,7])],lp:=[(4,[0,1,2,8,9,10])] }
def VR:Cv aM Sd Tryz.f23:=by apply Subtype.mk; cbv
def b23:=VR.1
def UU:=cL.mk 3 [.tmp 6,.tmp 7] (sub b23 0)
def aib:aG Tryz.prog Sd Tryz.f23=some UU:=cU (by kernel_rfl)
abbrev W9:=sub b23 11
def E23:=by
 have h:=aI b23 VR.1 0 (bn _)
 simp only [VR,cX,simprocAttr] at h
 exact h
end Go.Proofs.YtdbadpnkhaepnaaGreatDoor
set_option linter.defProp false
set_option maxRecDepth 100000
namespace Go.Proofs.YtdbadpnkhaepnaaGreatDoor
open Go Go.Abs
def Zk:cI:={ n:=173,own:=[],lv:=[(0,[0,1]),(1,[0,1,5]),(2,[0,1,5,6]),(3,[0,1,5,34]),(4,[4]),(5,[0,1,5,7]),(6,[0,1,5,7,8]),(7,[0,1,5,7,8,9]),(8,[0,1,5,7,8,9,40]),(9,[0,1,5,7,8,9]),(10,[0,1,5,7,8,9,10]),(11,[0,1,5,7,8,9,10,11,12,13]),(12,[0,1,5,7,8,9,10,11,12,13,14]),(13,[0,1,5,7,8,9,10,11,12,13,14,15]),(14,[0,1,5,7,8,9,10,11,12,13,14,15,71]),(15,[0,1,5,7,8,9,11,13,14,16]),(16,[0,1,5,7,8,9,11,16,17]),(17,[0,1,5,7,8,9,90]),(18,[4]),(19,[0,1,5,7,8,9,10,11,12,13,94]),(20,[0,1,5,7,8,9,10,11,13,18]),(21,[0,1,5,7,8,9,11,13,18,19]),(22,[0,1,5,7,8,9,11,13,18,19,103]),(23,[4]),(24,[0,1,5,7,8,9,11,18,20]),(25,[0,1,5,7,8,9,122]),(26,[4]),(27,[0,1,5,7,8,9,10,11,12,13,21]),(28,[0,1,5,7,8,9,10,11,12,13,21]),(29,[0,1,5,7,8,9,10,11,12,13,22,23]),(30,[0,1,5,7,8,9,10,11,12,22,23,24]),(31,[0,1,5,7,9,11,12,22,24,25]),(32,[0,1,5,7,9,11,12,162]),(33,[4]),(34,[0,1,5,7,9,12]),(35,[0,1,5,7,8,9]),(36,[4])],lp:=[(8,[0,1,5,7,8,9])] }
def ko3:Cv aM Zk Tryz.f3:=by apply Subtype.mk; cbv
def b3:=ko3.1
def fn3:=cL.mk 2 [.tmp 4] (sub b3 0)
def ok3:aG Tryz.prog Zk Tryz.f3=some fn3:=cU (by kernel_rfl)
abbrev abX:=sub b3 23
def E3:=by
 have h:=aI b3 ko3.1 0 (bn _)
 simp only [ko3,cX,simprocAttr] at h
 exact h
def Zl:cI:={ n:=145,own:=[],lv:=[(0,[0,1]),(1,[0,1,5]),(2,[0,1,5,6]),(3,[0,1,5,31]),(4,[4]),(5,[0,1,5,7]),(6,[0,1,5,7,8]),(7,[0,5,7,8,9]),(8,[0,5,7,8,9,10]),(9,[0,5,7,8,9,10,11]),(10,[0,5,7,8,9,10,11,12]),(11,[0,5,7,8,9,10,11,12,13]),(12,[0,5,7,8,9,10,11,12,13,47]),(13,[0,5,7,8,9,10,11,12,13]),(14,[0,5,7,8,9,10,11,12,13,62]),(15,[0,5,7,8,9,10,11,12,13,14]),(16,[0,5,7,9,10,11,12,13,14,15,16,17]),(17,[0,5,7,9,10,11,12,13,14,15,16,17,94]),(18,[0,5,7,9,10,11,13,14,15,16]),(19,[0,5,7,9,10,11,12,13,15,16]),(20,[0,5,7,9,10,11,12,13,16]),(21,[0,5,7,8,9,10,11,12,13]),(22,[5,7,8,10,11,113]),(23,[4]),(24,[5,7,8,11,18,19,20]),(25,[5,7,11,18,20,21]),(26,[5,7,18,21,22]),(27,[4])],lp:=[(12,[0,5,7,8,9,10,11,12,13])] }
def ko4:Cv aM Zl Tryz.f4:=by apply Subtype.mk; cbv
def b4:=ko4.1
def fn4:=cL.mk 2 [.tmp 4] (sub b4 0)
def ok4:aG Tryz.prog Zl Tryz.f4=some fn4:=cU (by kernel_rfl)
abbrev abY:=sub b4 31
def E4:=by
 have h:=aI b4 ko4.1 0 (bn _)
 simp only [ko4,cX,simprocAttr] at h
 exact h
def Zm:cI:={ n:=116,own:=[5000043,1000023],lv:=[(0,[0,1]),(1,[0,1,5]),(2,[0,1,5,6]),(3,[0,1,5,37]),(4,[4]),(5,[0,1,5,7]),(6,[0,1,5,7,8]),(7,[0,1,5,7,8,9]),(8,[0,1,5,7,8,9,10]),(9,[0,1,5,7,8,9,10,11]),(10,[0,1,5,7,8,9,10,11,47]),(11,[0,1,5,7,8,9,10,11]),(12,[0,1,5,7,8,9,10,11,12]),(13,[0,1,5,7,8,9,10,11,12,13]),(14,[0,1,5,7,8,9,10,11,12,13,14]),(15,[0,1,5,7,8,9,10,11,12,13,14,15,16]),(16,[0,1,5,7,8,10,11,12,13,14,16,17,18,19]),(17,[0,1,5,7,8,10,11,12,13,14,17,18,19,85]),(18,[0,1,5,7,8,10,11,12,14,17,18,19,20]),(19,[0,1,5,7,8,10,11,12,17,18,19,20]),(20,[0,1,5,7,8,10,11,12,17,18,19,21,22]),(21,[0,1,5,7,8,10,11,12,17,18,21,23]),(22,[0,1,5,7,8,10,11,12,17,18,21,100]),(23,[4]),(24,[0,1,5,7,8,10,11,12,17,18]),(25,[0,1,5,7,8,10,11,17,18]),(26,[0,1,5,7,8,10,11,18]),(27,[0,1,5,7,8,9,10,11]),(28,[0,1,5,7,8,9,10,11,110]),(29,[4]),(30,[4])],lp:=[(10,[0,1,5,7,8,9,10,11])] }
def ko5:Cv aM Zm Tryz.f5:=by apply Subtype.mk; cbv
def b5:=ko5.1
def YU:=cL.mk 2 [.tmp 4] (sub b5 0)
def ok5:aG Tryz.prog Zm Tryz.f5=some YU:=cU (by kernel_rfl)
abbrev abZ:=sub b5 27
def E5:=by
 have h:=aI b5 ko5.1 0 (bn _)
 simp only [ko5,cX,simprocAttr] at h
 exact h
def Zn:cI:={ n:=170,own:=[],lv:=[(0,[0]),(1,[0,3]),(2,[0,3,4]),(3,[0,3,21]),(4,[2]),(5,[0,3,5]),(6,[0,3,5,6]),(7,[0,3,5,6,7]),(8,[0,3,5,6,7,27]),(9,[0,3,5,6,7]),(10,[0,3,5,6,7,8,9,10]),(11,[0,3,5,6,7,8,9,10,11]),(12,[0,3,5,6,7,8,9,10,11,12]),(13,[0,3,5,6,7,8,9,10,11,12,13]),(14,[0,3,5,6,7,8,9,10,11,12,13,69]),(15,[0,3,5,6,7,8,9,10,11,12,13]),(16,[0,3,5,6,7,8,9,10,11,12,13,14]),(17,[0,3,5,6,7,8,9,10,11,12,13,14,80]),(18,[2]),(19,[0,3,5,6,7,8,9,10,11,12,13,14,15]),(20,[0,3,5,6,7,8,9,10,11,12,13,119]),(21,[2]),(22,[0,3,5,6,7,8,9,10,11,12,122]),(23,[0,3,5,6,7,8,9,10,11,12,16]),(24,[0,3,5,6,7,8,9,10,16,146]),(25,[2]),(26,[0,3,5,6,7,8,9,17]),(27,[0,3,5,6,7,8,9,155]),(28,[2]),(29,[0,3,5,7,8,9,166]),(30,[2]),(31,[0,3,5,7,9]),(32,[0,3,5,6,7]),(33,[2])],lp:=[(8,[0,3,5,6,7]),(14,[0,3,5,6,7,8,9,10,11,12,13])] }
def ko6:Cv aM Zn Tryz.f6:=by apply Subtype.mk; cbv
def b6:=ko6.1
def fn6:=cL.mk 1 [.tmp 2] (sub b6 0)
def ok6:aG Tryz.prog Zn Tryz.f6=some fn6:=cU (by kernel_rfl)
abbrev ab0:=sub b6 42
abbrev ab1:=sub b6 23
def E6:=by
 have h:=aI b6 ko6.1 0 (bn _)
 simp only [ko6,cX,simprocAttr] at h
 exact h
def Zo:cI:={ n:=143,own:=[],lv:=[(0,[0,1]),(1,[0,1,5]),(2,[0,1,5,6]),(3,[0,1,5,29]),(4,[4]),(5,[0,5,7]),(6,[0,5,7,8]),(7,[0,5,7,8,9]),(8,[0,5,7,8,9,10]),(9,[0,5,7,8,9,10,11]),(10,[0,5,7,8,9,10,11,12]),(11,[0,5,7,8,9,10,11,12,45]),(12,[0,5,7,8,9,10,11,12]),(13,[0,5,7,8,9,11,12,13,14,15]),(14,[0,5,7,8,9,11,12,13,14,15,76]),(15,[0,5,7,8,9,12,13,14,15,16,17,18]),(16,[0,5,7,8,9,12,13,14,15,16,17,18,19]),(17,[0,5,7,8,9,12,13,14,15,16,17,18,19,20]),(18,[0,5,7,8,9,12,13,14,16,17,132]),(19,[4]),(20,[0,5,7,8,9,12,13,14,17]),(21,[0,5,7,8,9,11,12,13,14]),(22,[0,5,7,8,9,11,12,14]),(23,[0,5,7,8,9,10,11,12]),(24,[4])],lp:=[(11,[0,5,7,8,9,10,11,12])] }
def ko7:Cv aM Zo Tryz.f7:=by apply Subtype.mk; cbv
def b7:=ko7.1
def fn7:=cL.mk 2 [.tmp 4] (sub b7 0)
def ok7:aG Tryz.prog Zo Tryz.f7=some fn7:=cU (by kernel_rfl)
abbrev ab2:=sub b7 29
def E7:=by
 have h:=aI b7 ko7.1 0 (bn _)
 simp only [ko7,cX,simprocAttr] at h
 exact h
def Zp:cI:={ n:=140,own:=[],lv:=[(0,[0,3]),(1,[0,3,5]),(2,[0,3,5,6]),(3,[0,3,5,26]),(4,[4]),(5,[0,3,5,7]),(6,[0,3,5,7,8]),(7,[0,3,5,7,8,9]),(8,[0,3,5,7,8,9,32]),(9,[0,3,5,7,8,9]),(10,[0,3,5,7,9,10,11]),(11,[0,3,5,7,9,11]),(12,[0,3,5,7,8,9]),(13,[3,5,7,8,13]),(14,[3,5,7,8,88]),(15,[4]),(16,[5,7,8,14,15,16]),(17,[5,7,14,16,17]),(18,[4])],lp:=[(8,[0,3,5,7,8,9])] }
def ko8:Cv aM Zp Tryz.f8:=by apply Subtype.mk; cbv
def b8:=ko8.1
def fn8:=cL.mk 2 [.tmp 4] (sub b8 0)
def ok8:aG Tryz.prog Zp Tryz.f8=some fn8:=cU (by kernel_rfl)
abbrev ab3:=sub b8 23
def E8:=by
 have h:=aI b8 ko8.1 0 (bn _)
 simp only [ko8,cX,simprocAttr] at h
 exact h
def Zq:cI:={ n:=184,own:=[],lv:=[(0,[]),(1,[1,2,3]),(2,[1,3,4,5,6]),(3,[1,3,4,6,7,8,9]),(4,[1,3,4,6,7,8,9,11,12]),(5,[1,3,4,6,7,8,9,11,12,15]),(6,[1,3,4,6,7,8,9,11,12,15,18]),(7,[1,3,4,6,7,8,9,11,12,15,18,21]),(8,[1,3,4,6,7,8,9,11,12,15,18,21,24]),(9,[1,3,4,6,9,11,12,15,18,21,24,27]),(10,[1,3,4,9,11,12,15,18,21,24,27,28]),(11,[0])],lp:=[] }
def ko9:Cv aM Zq Tryz.f9:=by apply Subtype.mk; cbv
def b9:=ko9.1
def fn9:=cL.mk 0 [.tmp 0] (sub b9 0)
def ok9:aG Tryz.prog Zq Tryz.f9=some fn9:=cU (by kernel_rfl)
def E9:=by
 have h:=aI b9 ko9.1 0 (bn _)
 simp only [ko9,cX,simprocAttr] at h
 exact h
end Go.Proofs.YtdbadpnkhaepnaaGreatDoor
set_option linter.defProp false
set_option maxRecDepth 100000
namespace Go.Proofs.YtdbadpnkhaepnaaGreatDoor
open Go Go.Abs
def Cx:cI:={ n:=11,own:=[],lv:=[(0,[0,1]),(1,[4,5])],lp:=[] }
def MN:Cv aM Cx Tryz.f197:=by apply Subtype.mk; cbv
def aak:=MN.1
def Be:=cL.mk 2 [.tmp 4,.tmp 5] (sub aak 0)
def adu:aG Tryz.prog Cx Tryz.f197=some Be:=cU (by kernel_rfl)
def aeY:=by
 have h:=aI aak MN.1 0 (bn _)
 simp only [MN,cX,simprocAttr] at h
 exact h
def Cy:cI:={ n:=15,own:=[],lv:=[(0,[0,1]),(1,[0,1,9]),(2,[4,5]),(3,[4,5])],lp:=[] }
def MT:Cv aM Cy Tryz.f224:=by apply Subtype.mk; cbv
def aan:=MT.1
def Bf:=cL.mk 2 [.tmp 4,.tmp 5] (sub aan 0)
def adC:aG Tryz.prog Cy Tryz.f224=some Bf:=cU (by kernel_rfl)
def O7:=by
 have h:=aI aan MT.1 0 (bn _)
 simp only [MT,cX,simprocAttr] at h
 exact h
def Cz:cI:={ n:=18,own:=[],lv:=[(0,[0,1]),(1,[4])],lp:=[] }
def MU:Cv aM Cz Tryz.f247:=by apply Subtype.mk; cbv
def aao:=MU.1
def x7:=cL.mk 2 [.tmp 4] (sub aao 0)
def adE:aG Tryz.prog Cz Tryz.f247=some x7:=cU (by kernel_rfl)
def O8:=by
 have h:=aI aao MU.1 0 (bn _)
 simp only [MU,cX,simprocAttr] at h
 exact h
end Go.Proofs.YtdbadpnkhaepnaaGreatDoor
namespace Go.Abs
section
open Go Go.RowKit
def bW {α:Type}:∀(l:List α) (i:Nat),nth l i=l[i]?
 | [],_=>by simp [nth]
 |_::_,0=>by simp [nth]
 |_::l,n+1=>by simp [nth,bW l n]
def cF {α:Type}:∀(l:List α) (i:Nat) (x:α),dG l i x=l.set i x
 | [],_,_=>by simp [dG]
 |_::_,0,_=>by simp [dG]
 |_::l,n+1,x=>by simp [dG,cF l n]
def cH (j:J) (id:Nat) (ob:Option Nat):J:=⟨fun i=>if i=id then ob else j i,j.X⟩
structure Quiet (w w':World):Prop where
 size:w.heap.size<=w'.heap.size
 os:w'.os=w.os
 tape:w'.tape=w.tape
 output:w'.output=w.output
def lt_of_block {w:World} {b:Nat} {o:Obj} (h:w.heap[b]?=some o):b<w.heap.size:=by
 rcases Nat.lt_or_ge b w.heap.size with h'|h'
 ·exact h'
 ·rw [Array.getElem?_eq_none h'] at h; cases h
def ak {α:Type} {l:List α} {i:Nat} {x:α} (h:l[i]?=some x):i<l.length:=(List.getElem?_eq_some_iff.1 h).1
section
variable {j:J} {M:ai} {w w':World}
def iR {j':J} {M':ai} (hr:Rel j M w) (ext:Ext j M w j' M' w') {i sz ver:Nat} {xs:List ae} (h:M[i]?=some (.arr sz ver xs)) (hj:j' i=j i) (hb:∀b,j i=some b->w'.heap[b]?=w.heap[b]?) :
  (xs=[]/\j' i=none)\/∃b vs t,j' i=some b/\w'.heap[b]?=some (.cells vs t (0,0))/\xs.length*sz<=vs.size/\(∀x,x∈xs->x.cells.length=sz) /\
  ∀(q:Nat) (x:ae) (k:Nat) (c:ae),xs[q]?=some x->x.cells[k]?=some c->∃v,vs[q*sz+k]?=some v/\bX w' (gv j' M' w') c v:=by
 rcases hr.arr i sz ver xs h with he|⟨b,vs,t,h1,h2,h3,h4,h5⟩
 ·exact .inl ⟨he.1,hj.trans he.2⟩
 refine .inr ⟨b,vs,t,hj.trans h1,(hb b h1).trans h2,h3,h4,fun q x k c hx hk=>?_⟩
 obtain ⟨u,h6,h7⟩:=h5 q x k c hx hk
 exact ⟨u,h6,h7.mono ext.cW⟩
def Rel.rL (hr:Rel j M w) {i sz ver b:Nat} {xs:List ae} (h:M[i]?=some (.arr sz ver xs)) (hj:j i=some b):∃b vs t,j i=some b/\w.heap[b]?=some (.cells vs t (0,0))/\xs.length*sz<=vs.size/\(∀x,x∈xs->x.cells.length=sz) /\
  ∀(q:Nat) (x:ae) (k:Nat) (c:ae),xs[q]?=some x->x.cells[k]?=some c->∃v,vs[q*sz+k]?=some v/\bX w (gv j M w) c v:=by
 rcases hr.arr i sz ver xs h with ⟨_,he⟩|hh
 ·rw [hj] at he; cases he
 ·exact hh
def pK {bx:aQ} {i:Nat} (h:i<M.length):(M++[bx])[i]?=M[i]?:=List.getElem?_append_left h
def gL {bx:aQ}:(M++[bx])[M.length]?=some bx:=by simp
def Ext.push {ob:Option Nat} {bx:aQ} (hob:∀b,ob=some b->w.heap.size<=b) (q:Quiet w w') (hb:∀b,b<w.heap.size->w'.heap[b]?=w.heap[b]?) :
  Ext j M w (cH j M.length ob) (M++[bx]) w' where
 len:=by simp
 size:=q.size
 os:=q.os
 tape:=q.tape
 output:=q.output
 X:=rfl
 fix:=fun i bx h _=>by
  have hi:=ak h
  exact ⟨by simp [cH,Nat.ne_of_lt hi],bx,by rw [pK hi]; exact h,rfl⟩
 tick:=fun i sz n h=>by
  have hi:=ak h
  exact ⟨n,Nat.le_refl _,by rw [pK hi]; exact h,fun _=>⟨by simp [cH,Nat.ne_of_lt hi],fun b vs t _ hv=>⟨vs,(hb b (lt_of_block hv)).trans hv,rfl⟩⟩⟩
 arr:=fun i sz v xs h=>by
  have hi:=ak h
  exact .inr ⟨v,xs,by rw [pK hi]; exact h,Nat.le_refl _,fun _=>⟨by simp [cH,Nat.ne_of_lt hi],rfl,fun b vs t _ hv=>⟨vs,(hb b (lt_of_block hv)).trans hv,rfl⟩⟩⟩
 tags:=fun b0 vs0 t0 fr0 h=>⟨vs0,fr0,(hb b0 (lt_of_block h)).trans h,rfl⟩
 cW:=fun b off h=>by
  refine ⟨⟨Nat.lt_of_lt_of_le h.1 q.size,fun id hid hj=>?_,h.3⟩,World.cell?_of_block (w:=w) (hb b h.1)⟩
  by_cases he:id=M.length
  ·have:ob=some b:=by simpa [cH,he] using hj
   have:=hob b this
   have:=h.1
   omega
  ·have hlt:id<M.length:=by simp at hid; omega
   rw [pK hlt]
   exact h.2 id hlt (by simpa [cH,he] using hj)
 mw:=fun b hlt h=>by
  refine ⟨hb b hlt,fun i hi hj=>?_⟩
  by_cases he:i=M.length
  ·have:ob=some b:=by simpa [cH,he] using hj
   have:=hob b this
   omega
  ·exact h i (by simp at hi; omega) (by simpa [cH,he] using hj)
def Rel.TS (hr:Rel j M w) {ob:Option Nat} {bx:aQ} (hob:∀b,ob=some b->w.heap.size<=b/\b<w'.heap.size) (q:Quiet w w') (hb:∀b,b<w.heap.size->w'.heap[b]?=w.heap[b]?)
  (hbox:bx.fixed=true->∃b,ob=some b/\(Ext j M w (cH j M.length ob) (M++[bx]) w'->Holds (cH j M.length ob) (M++[bx]) w' b bx))
  (htick:∀sz n b,bx = .tick sz n->ob=some b->∃vs t,w'.heap[b]?=some (.cells vs t (0,0)))
  (harr:∀sz ver xs,bx = .arr sz ver xs->(xs=[]/\ob=none)\/∃b vs t,ob=some b/\w'.heap[b]?=some (.cells vs t (0,0))/\xs.length*sz<=vs.size/\(∀x,x∈xs->x.cells.length=sz) /\
   ∀j' M',Ext j M w j' M' w'->∀(q:Nat) (x:ae) (k:Nat) (c:ae),xs[q]?=some x->x.cells[k]?=some c->∃v,vs[q*sz+k]?=some v/\bX w' (gv j' M' w') c v:=by intro _ _ _ h; cases h):Rel (cH j M.length ob) (M++[bx]) w':=by
 have ext:Ext j M w (cH j M.length ob) (M++[bx]) w':=Ext.push (fun b h=>(hob b h).1) q hb
 have up:∀i,i<M.length->cH j M.length ob i=j i:=fun i hi=>by simp [cH,Nat.ne_of_lt hi]
 have cas:∀i x,(M++[bx])[i]?=some x->(i<M.length/\M[i]?=some x)\/(i=M.length/\x=bx):=by
  intro i x h
  rcases Nat.lt_or_ge i M.length with hi|hi
  ·exact .inl ⟨hi,by rw [<-pK (bx:=bx) hi]; exact h⟩
  ·have:=ak h
   have he:i=M.length:=by simp at this; omega
   subst he
   rw [gL] at h
   injection h with h
   exact .inr ⟨rfl,h.symm⟩
 refine ⟨fun i i' b hi hi' h h'=>?_,fun i b hi h=>?_,fun i bx' h hf=>?_,fun i sz n b h hj=>?_,fun i sz ver xs h=>?_,fun i b hi h off hx=>?_,fun b off h=>Nat.lt_of_lt_of_le (hr.rD b off h) q.size⟩
 ·simp only [List.length_append,List.length_cons,List.length_nil] at hi hi'
  by_cases e:i=M.length<;>by_cases e':i'=M.length
  ·omega
  ·have h1:ob=some b:=by simpa [cH,e] using h
   rw [up i' (by omega)] at h'
   have:=hr.lt i' b (by omega) h'
   have:=(hob b h1).1
   omega
  ·have h1:ob=some b:=by simpa [cH,e'] using h'
   rw [up i (by omega)] at h
   have:=hr.lt i b (by omega) h
   have:=(hob b h1).1
   omega
  ·rw [up i (by omega)] at h
   rw [up i' (by omega)] at h'
   exact hr.inj i i' b (by omega) (by omega) h h'
 ·simp only [List.length_append,List.length_cons,List.length_nil] at hi
  by_cases e:i=M.length
  ·exact (hob b (by simpa [cH,e] using h)).2
  ·rw [up i (by omega)] at h
   exact Nat.lt_of_lt_of_le (hr.lt i b (by omega) h) q.size
 ·rcases cas i _ h with ⟨hi,h⟩|⟨rfl,hx⟩
  ·obtain ⟨b,h1,h2⟩:=hr.fix i bx' h hf
   exact ⟨b,by rw [up i hi]; exact h1,h2.mono ext (hb b (hr.lt i b hi h1))⟩
  ·subst hx
   obtain ⟨b,h1,h2⟩:=hbox hf
   exact ⟨b,by simp [cH,h1],h2 ext⟩
 ·rcases cas i _ h with ⟨hi,h⟩|⟨rfl,hx⟩
  ·rw [up i hi] at hj
   obtain ⟨vs,t,h1⟩:=hr.tick i sz n b h hj
   exact ⟨vs,t,(hb b (lt_of_block h1)).trans h1⟩
  ·exact htick sz n b hx.symm (by simpa [cH] using hj)
 ·rcases cas i _ h with ⟨hi,h⟩|⟨rfl,hx⟩
  ·exact iR hr ext h (up i hi) fun b h1=>hb b (hr.lt i b hi h1)
  ·obtain ⟨h1,h2⟩|⟨b,vs,t,h1,h2,h3,h4,h5⟩:=harr sz ver xs hx.symm
   ·exact .inl ⟨h1,by simp [cH,h2]⟩
   exact .inr ⟨b,vs,t,by simp [cH,h1],h2,h3,h4,h5 _ _ ext⟩
 ·by_cases e:i=M.length
  ·have h1:=(hob b (by simpa [cH,e] using h)).1
   have h2:=hr.rD b off hx
   omega
  ·exact hr.nc i b (by simp at hi; omega) (by rw [up i (by simp at hi; omega)] at h; exact h) off hx
def Rel.push (hr:Rel j M w) {ob:Option Nat} {bx:aQ} (hob:∀b,ob=some b->w.heap.size<=b/\b<w'.heap.size) (q:Quiet w w') (hb:∀b,b<w.heap.size->w'.heap[b]?=w.heap[b]?)
  (hbox:bx.fixed=true->∃b,ob=some b/\∀j' M',Ext j M w j' M' w'->Holds j' M' w' b bx)
  (htick:∀sz n b,bx = .tick sz n->ob=some b->∃vs t,w'.heap[b]?=some (.cells vs t (0,0)))
  (harr:∀sz ver xs,bx = .arr sz ver xs->(xs=[]/\ob=none)\/∃b vs t,ob=some b/\w'.heap[b]?=some (.cells vs t (0,0))/\xs.length*sz<=vs.size/\(∀x,x∈xs->x.cells.length=sz) /\
   ∀j' M',Ext j M w j' M' w'->∀(q:Nat) (x:ae) (k:Nat) (c:ae),xs[q]?=some x->x.cells[k]?=some c->∃v,vs[q*sz+k]?=some v/\bX w' (gv j' M' w') c v:=by intro _ _ _ h; cases h):Rel (cH j M.length ob) (M++[bx]) w' :=
 hr.TS hob q hb (fun hf=>(hbox hf).imp fun b h=>⟨h.1,fun hx=>h.2 _ _ hx⟩) htick harr
def bf {id:Nat} {bx:aQ} (h:id<M.length):(M.set id bx)[id]?=some bx:=by simp [h]
def aO {id i:Nat} {bx:aQ} (h:id≠i):(M.set id bx)[i]?=M[i]?:=by simp [List.getElem?_set_ne h]
def Ext.store {id b:Nat} {bx bx':aQ} (hM:M[id]?=some bx) (hfx:bx.fixed=true) (htag:bx'.tag=bx.tag) (hj:j id=some b) (hr:Rel j M w) (q:Quiet w w')
  (hb:∀b',b'≠b->b'<w.heap.size->w'.heap[b']?=w.heap[b']?) (htg:∀(vs:Array Value) (t:TypeId) (fr:Nat×Nat),w.heap[b]?=some (.cells vs t fr)->∃vs' fr',w'.heap[b]?=some (.cells vs' t fr')/\vs'.size=vs.size):Ext j M w j (M.set id bx') w' where
 len:=by simp
 size:=q.size
 os:=q.os
 tape:=q.tape
 output:=q.output
 X:=rfl
 fix:=fun i b0 h _=>⟨rfl,by
  by_cases e:id=i
  ·subst e
   rw [hM] at h; injection h with h; subst h
   exact ⟨_,bf (ak hM),htag⟩
  ·exact ⟨b0,by rw [aO e]; exact h,rfl⟩⟩
 tick:=fun i sz n h=>by
  have e:id≠i:=by rintro rfl; rw [hM] at h; injection h with h; subst h; cases hfx
  refine ⟨n,Nat.le_refl _,by rw [aO e]; exact h,fun _=>⟨rfl,fun b' vs t hb' hv=>⟨vs,?_,rfl⟩⟩⟩
  refine (hb b' ?_ (lt_of_block hv)).trans hv
  rintro rfl
  exact e (hr.inj _ _ _ (ak hM) (ak h) hj hb')
 arr:=fun i sz v xs h=>by
  have e:id≠i:=by rintro rfl; rw [hM] at h; injection h with h; subst h; cases hfx
  refine .inr ⟨v,xs,by rw [aO e]; exact h,Nat.le_refl _,fun _=>⟨rfl,rfl,fun b' vs t hb' hv=>⟨vs,?_,rfl⟩⟩⟩
  refine (hb b' ?_ (lt_of_block hv)).trans hv
  rintro rfl
  exact e (hr.inj _ _ _ (ak hM) (ak h) hj hb')
 tags:=fun b0 vs0 t0 fr0 h=>by
  by_cases e:b0=b
  ·subst e; exact htg vs0 t0 fr0 h
  ·exact ⟨vs0,fr0,(hb b0 e (lt_of_block h)).trans h,rfl⟩
 cW:=fun b0 off h=>by
  have hne:b0≠b:=by
   rintro rfl
   obtain ⟨sz,n,h1,_⟩:=h.2 id (ak hM) hj
   rw [hM] at h1; injection h1 with h1; subst h1; cases hfx
  refine ⟨⟨Nat.lt_of_lt_of_le h.1 q.size,fun i hi hji=>?_,h.3⟩,World.cell?_of_block (w:=w) (hb b0 hne h.1)⟩
  have e:id≠i:=by rintro rfl; rw [hj] at hji; injection hji with hji; exact hne hji.symm
  rw [aO e]
  exact h.2 i (by simpa using hi) hji
 mw:=fun b0 hlt h=>by
  have hne:b0≠b:=by rintro rfl; exact h id (ak hM) hj
  exact ⟨hb b0 hne hlt,fun i hi=>h i (by simpa using hi)⟩
def Rel.store {id b:Nat} {bx bx':aQ} (hM:M[id]?=some bx) (hfx:bx.fixed=true) (htag:bx'.tag=bx.tag) (hj:j id=some b) (hr:Rel j M w) (q:Quiet w w')
  (hb:∀b',b'≠b->b'<w.heap.size->w'.heap[b']?=w.heap[b']?) (htg:∀(vs:Array Value) (t:TypeId) (fr:Nat×Nat),w.heap[b]?=some (.cells vs t fr)->∃vs' fr',w'.heap[b]?=some (.cells vs' t fr')/\vs'.size=vs.size) (hh:∀j' M',Ext j M w j' M' w'->Holds j' M' w' b bx'):Rel j (M.set id bx') w':=by
 have ext:Ext j M w j (M.set id bx') w':=Ext.store hM hfx htag hj hr q hb htg
 refine ⟨fun i i' b0 hi hi'=>hr.inj i i' b0 (by simpa using hi) (by simpa using hi'),fun i b0 hi h=>Nat.lt_of_lt_of_le (hr.lt i b0 (by simpa using hi) h) q.size,fun i bx0 h hf=>?_,fun i sz n b0 h hji=>?_,fun i sz ver xs h=>?_,fun i b0 hi h=>hr.nc i b0 (by simpa using hi) h,fun b0 off h=>Nat.lt_of_lt_of_le (hr.rD b0 off h) q.size⟩
 ·by_cases e:id=i
  ·subst e
   rw [bf (ak hM)] at h
   injection h with h
   subst h
   exact ⟨b,hj,hh _ _ ext⟩
  ·rw [aO e] at h
   obtain ⟨b0,h1,h2⟩:=hr.fix i bx0 h hf
   refine ⟨b0,h1,h2.mono ext (hb b0 ?_ (hr.lt i b0 (ak h) h1))⟩
   rintro rfl
   exact e (hr.inj _ _ _ (ak hM) (ak h) hj h1)
 ·have e:id≠i:=by
   rintro rfl
   rw [bf (ak hM)] at h
   injection h with h
   have:=uw htag hfx
   rw [h] at this; cases this
  rw [aO e] at h
  obtain ⟨vs,t0,h1⟩:=hr.tick i sz n b0 h hji
  refine ⟨vs,t0,(hb b0 ?_ (lt_of_block h1)).trans h1⟩
  rintro rfl
  exact e (hr.inj _ _ _ (ak hM) (ak h) hj hji)
 ·have e:id≠i:=by
   rintro rfl
   rw [bf (ak hM)] at h
   injection h with h
   have:=uw htag hfx
   rw [h] at this; cases this
  rw [aO e] at h
  refine iR hr ext h rfl fun b0 h1=>hb b0 ?_ (hr.lt i b0 (ak h) h1)
  rintro rfl
  exact e (hr.inj _ _ _ (ak hM) (ak h) hj h1)
def Ext.z6 {k b sz n n':Nat} {vs vs':Array Value} {t:TypeId} (hM:M[k]?=some (.tick sz n)) (hj:j k=some b) (hr:Rel j M w) (q:Quiet w w')
  (hb:∀b',b'≠b->b'<w.heap.size->w'.heap[b']?=w.heap[b']?) (hw:w.heap[b]?=some (.cells vs t (0,0))) (hw':w'.heap[b]?=some (.cells vs' t (0,0))) (hvs:vs'.size=vs.size)
  (hq:∀p,p<n*sz->vs'[p]?=vs[p]?) (hn:n<=n'):Ext j M w j (M.set k (.tick sz n')) w' where
 len:=by simp
 size:=q.size
 os:=q.os
 tape:=q.tape
 output:=q.output
 X:=rfl
 fix:=fun i b0 h hf=>⟨rfl,by
  have e:k≠i:=by rintro rfl; rw [hM] at h; injection h with h; subst h; cases hf
  exact ⟨b0,by rw [aO e]; exact h,rfl⟩⟩
 tick:=fun i sz0 n0 h=>by
  by_cases e:k=i
  ·subst e
   rw [hM] at h
   injection h with h; injection h with h1 h2
   subst h1; subst h2
   refine ⟨n',hn,bf (ak hM),fun _=>⟨rfl,fun b' vs0 t0 hb' hv=>?_⟩⟩
   rw [hj] at hb'; injection hb' with hb'; subst hb'
   rw [hw] at hv; injection hv with hv; injection hv with e1 e2
   subst e1; subst e2
   exact ⟨vs',hw',hvs⟩
  ·refine ⟨n0,Nat.le_refl _,by rw [aO e]; exact h,fun _=>⟨rfl,fun b' vs0 t0 hb' hv=>⟨vs0,?_,rfl⟩⟩⟩
   refine (hb b' ?_ (lt_of_block hv)).trans hv
   rintro rfl
   exact e (hr.inj _ _ _ (ak hM) (ak h) hj hb')
 arr:=fun i sz v xs h=>by
  have e:k≠i:=by rintro rfl; rw [hM] at h; cases h
  refine .inr ⟨v,xs,by rw [aO e]; exact h,Nat.le_refl _,fun _=>⟨rfl,rfl,fun b' vs t hb' hv=>⟨vs,?_,rfl⟩⟩⟩
  refine (hb b' ?_ (lt_of_block hv)).trans hv
  rintro rfl
  exact e (hr.inj _ _ _ (ak hM) (ak h) hj hb')
 tags:=fun b0 vs0 t0 fr0 h=>by
  by_cases e:b0=b
  ·subst e
   rw [hw] at h; injection h with h; injection h with h1 h2 h3
   subst h1; subst h2
   exact ⟨_,_,hw',hvs⟩
  ·exact ⟨vs0,fr0,(hb b0 e (lt_of_block h)).trans h,rfl⟩
 cW:=fun b0 off h=>by
  refine ⟨⟨Nat.lt_of_lt_of_le h.1 q.size,fun i hi hji=>?_,h.3⟩,?_⟩
  ·by_cases e:k=i
   ·subst e
    obtain ⟨sz0,n0,h1,h2⟩:=h.2 k (ak hM) hji
    rw [hM] at h1
    injection h1 with h1; injection h1 with e1 e2
    subst e1; subst e2
    exact ⟨sz,n',bf (ak hM),Nat.lt_of_lt_of_le h2 (Nat.mul_le_mul_right _ hn)⟩
   ·rw [aO e]
    exact h.2 i (by simpa using hi) hji
  ·by_cases e:b0=b
   ·subst e
    obtain ⟨sz0,n0,h1,h2⟩:=h.2 k (ak hM) hj
    rw [hM] at h1
    injection h1 with h1; injection h1 with e1 e2
    subst e1; subst e2
    simp only [World.cell?,hw,hw']
    simpa using hq off h2
   ·exact World.cell?_of_block (w:=w) (hb b0 e h.1)
 mw:=fun b0 hlt h=>by
  have hne:b0≠b:=by rintro rfl; exact h k (ak hM) hj
  exact ⟨hb b0 hne hlt,fun i hi=>h i (by simpa using hi)⟩
def Rel.z6 {k b sz n n':Nat} {vs vs':Array Value} {t:TypeId} (hM:M[k]?=some (.tick sz n)) (hj:j k=some b) (hr:Rel j M w) (q:Quiet w w')
  (hb:∀b',b'≠b->b'<w.heap.size->w'.heap[b']?=w.heap[b']?) (hw:w.heap[b]?=some (.cells vs t (0,0))) (hw':w'.heap[b]?=some (.cells vs' t (0,0))) (hvs:vs'.size=vs.size)
  (hq:∀p,p<n*sz->vs'[p]?=vs[p]?) (hn:n<=n'):Rel j (M.set k (.tick sz n')) w':=by
 have ext:Ext j M w j (M.set k (.tick sz n')) w':=Ext.z6 hM hj hr q hb hw hw' hvs hq hn
 refine ⟨fun i i' b0 hi hi'=>hr.inj i i' b0 (by simpa using hi) (by simpa using hi'),fun i b0 hi h=>Nat.lt_of_lt_of_le (hr.lt i b0 (by simpa using hi) h) q.size,fun i bx0 h hf=>?_,fun i sz0 n0 b0 h hji=>?_,fun i sz ver xs h=>?_,fun i b0 hi h=>hr.nc i b0 (by simpa using hi) h,fun b0 off h=>Nat.lt_of_lt_of_le (hr.rD b0 off h) q.size⟩
 ·have e:k≠i:=by rintro rfl; rw [bf (ak hM)] at h; injection h with h; subst h; cases hf
  rw [aO e] at h
  obtain ⟨b0,h1,h2⟩:=hr.fix i bx0 h hf
  refine ⟨b0,h1,h2.mono ext (hb b0 ?_ (hr.lt i b0 (ak h) h1))⟩
  rintro rfl
  exact e (hr.inj _ _ _ (ak hM) (ak h) hj h1)
 ·by_cases e:k=i
  ·subst e
   rw [hj] at hji; injection hji with hji; subst hji
   exact ⟨vs',t,hw'⟩
  ·rw [aO e] at h
   obtain ⟨vs0,t0,h1⟩:=hr.tick i sz0 n0 b0 h hji
   refine ⟨vs0,t0,(hb b0 ?_ (lt_of_block h1)).trans h1⟩
   rintro rfl
   exact e (hr.inj _ _ _ (ak hM) (ak h) hj hji)
 ·have e:k≠i:=by rintro rfl; rw [bf (ak hM)] at h; cases h
  rw [aO e] at h
  refine iR hr ext h rfl fun b0 h1=>hb b0 ?_ (hr.lt i b0 (ak h) h1)
  rintro rfl
  exact e (hr.inj _ _ _ (ak hM) (ak h) hj h1)
def Ext.vz {k b' sz n n':Nat} (hM:M[k]?=some (.tick sz n)) (q:Quiet w w') (hb:∀b,b<w.heap.size->w'.heap[b]?=w.heap[b]?) (hf:w.heap.size<=b') (hn:n<n') :
  Ext j M w (cH j k (some b')) (M.set k (.tick sz n')) w' where
 len:=by simp
 size:=q.size
 os:=q.os
 tape:=q.tape
 output:=q.output
 X:=rfl
 fix:=fun i b0 h hf=>by
  have e:k≠i:=by rintro rfl; rw [hM] at h; injection h with h; subst h; cases hf
  exact ⟨by simp [cH,Ne.symm e],b0,by rw [aO e]; exact h,rfl⟩
 tick:=fun i sz0 n0 h=>by
  by_cases e:k=i
  ·subst e
   rw [hM] at h
   injection h with h; injection h with h1 h2
   subst h1; subst h2
   exact ⟨n',by omega,bf (ak hM),fun he=>by omega⟩
  ·exact ⟨n0,Nat.le_refl _,by rw [aO e]; exact h,fun _=>⟨by simp [cH,Ne.symm e],fun b vs0 t0 _ hv=>⟨vs0,(hb b (lt_of_block hv)).trans hv,rfl⟩⟩⟩
 arr:=fun i sz v xs h=>by
  have e:k≠i:=by rintro rfl; rw [hM] at h; cases h
  exact .inr ⟨v,xs,by rw [aO e]; exact h,Nat.le_refl _,fun _=>⟨by simp [cH,Ne.symm e],rfl,fun b vs0 t0 _ hv=>⟨vs0,(hb b (lt_of_block hv)).trans hv,rfl⟩⟩⟩
 tags:=fun b0 vs0 t0 fr0 h=>⟨vs0,fr0,(hb b0 (lt_of_block h)).trans h,rfl⟩
 cW:=fun b0 off h=>by
  refine ⟨⟨Nat.lt_of_lt_of_le h.1 q.size,fun i hi hji=>?_,h.3⟩,World.cell?_of_block (w:=w) (hb b0 h.1)⟩
  have e:k≠i:=by
   rintro rfl
   have:b'=b0:=by simpa [cH] using hji
   have:=h.1
   omega
  rw [aO e]
  exact h.2 i (by simpa using hi) (by simpa [cH,Ne.symm e] using hji)
 mw:=fun b0 hlt h=>by
  refine ⟨hb b0 hlt,fun i hi hji=>?_⟩
  by_cases e:i=k
  ·have:b'=b0:=by simpa [cH,e] using hji
   omega
  ·exact h i (by simpa using hi) (by simpa [cH,e] using hji)
def Rel.vz {k b' sz n n':Nat} {vs:Array Value} {t:TypeId} (hM:M[k]?=some (.tick sz n)) (hr:Rel j M w) (q:Quiet w w') (hb:∀b,b<w.heap.size->w'.heap[b]?=w.heap[b]?)
  (hf:w.heap.size<=b') (hw':w'.heap[b']?=some (.cells vs t (0,0))) (hn:n<n'):Rel (cH j k (some b')) (M.set k (.tick sz n')) w':=by
 have ext:Ext j M w (cH j k (some b')) (M.set k (.tick sz n')) w':=Ext.vz hM q hb hf hn
 refine ⟨fun i i' b0 hi hi' h h'=>?_,fun i b0 hi h=>?_,fun i bx0 h hf=>?_,fun i sz0 n0 b0 h hji=>?_,fun i sz ver xs h=>?_,fun i b0 hi h off hx=>?_,fun b0 off h=>Nat.lt_of_lt_of_le (hr.rD b0 off h) q.size⟩
 ·simp only [List.length_set] at hi hi'
  by_cases e:i=k<;>by_cases e':i'=k
  ·omega
  ·have h1:b'=b0:=by simpa [cH,e] using h
   have:=hr.lt i' b0 hi' (by simpa [cH,e'] using h')
   omega
  ·have h1:b'=b0:=by simpa [cH,e'] using h'
   have:=hr.lt i b0 hi (by simpa [cH,e] using h)
   omega
  ·exact hr.inj i i' b0 hi hi' (by simpa [cH,e] using h) (by simpa [cH,e'] using h')
 ·simp only [List.length_set] at hi
  by_cases e:i=k
  ·have h1:b'=b0:=by simpa [cH,e] using h
   subst h1
   exact lt_of_block hw'
  ·exact Nat.lt_of_lt_of_le (hr.lt i b0 hi (by simpa [cH,e] using h)) q.size
 ·have e:k≠i:=by rintro rfl; rw [bf (ak hM)] at h; injection h with h; subst h; cases hf
  rw [aO e] at h
  obtain ⟨b0,h1,h2⟩:=hr.fix i bx0 h hf
  exact ⟨b0,by simpa [cH,Ne.symm e] using h1,h2.mono ext (hb b0 (hr.lt i b0 (ak h) h1))⟩
 ·by_cases e:i=k
  ·have h1:b'=b0:=by simpa [cH,e] using hji
   subst h1
   exact ⟨vs,t,hw'⟩
  ·rw [aO (Ne.symm e)] at h
   obtain ⟨vs0,t0,h1⟩:=hr.tick i sz0 n0 b0 h (by simpa [cH,e] using hji)
   exact ⟨vs0,t0,(hb b0 (lt_of_block h1)).trans h1⟩
 ·have e:k≠i:=by rintro rfl; rw [bf (ak hM)] at h; cases h
  rw [aO e] at h
  exact iR hr ext h (by simp [cH,Ne.symm e]) fun b0 h1=>hb b0 (hr.lt i b0 (ak h) h1)
 ·by_cases e:i=k
  ·have h1:b'=b0:=by simpa [cH,e] using h
   have h2:=hr.rD b0 off hx
   omega
  ·exact hr.nc i b0 (by simpa using hi) (by simpa [cH,e] using h) off hx
end
section
variable {j:J} {M:ai} {w w':World}
def Ad (j:J) (M:ai) (w:World) (b sz:Nat) (xs:List ae):Prop:=∃vs t,w.heap[b]?=some (.cells vs t (0,0))/\xs.length*sz<=vs.size/\(∀x,x∈xs->x.cells.length=sz) /\
  ∀(q:Nat) (x:ae) (k:Nat) (c:ae),xs[q]?=some x->x.cells[k]?=some c->∃v,vs[q*sz+k]?=some v/\bX w (gv j M w) c v
def Ext.xN {id b sz ver ver':Nat} {xs xs':List ae} (hM:M[id]?=some (.arr sz ver xs)) (hj:j id=some b) (hr:Rel j M w) (q:Quiet w w')
  (hb:∀b',b'≠b->b'<w.heap.size->w'.heap[b']?=w.heap[b']?) (hw:∀vs t,w.heap[b]?=some (.cells vs t (0,0))->∃vs',w'.heap[b]?=some (.cells vs' t (0,0))/\vs'.size=vs.size)
  (hv:ver<=ver') (hl:ver'=ver->xs'.length=xs.length):Ext j M w j (M.set id (.arr sz ver' xs')) w' where
 len:=by simp
 size:=q.size
 os:=q.os
 tape:=q.tape
 output:=q.output
 X:=rfl
 fix:=fun i b0 h hf=>⟨rfl,by
  have e:id≠i:=by rintro rfl; rw [hM] at h; injection h with h; subst h; cases hf
  exact ⟨b0,by rw [aO e]; exact h,rfl⟩⟩
 tick:=fun i sz0 n0 h=>by
  have e:id≠i:=by rintro rfl; rw [hM] at h; cases h
  refine ⟨n0,Nat.le_refl _,by rw [aO e]; exact h,fun _=>⟨rfl,fun b' vs0 t0 hb' hv=>⟨vs0,?_,rfl⟩⟩⟩
  refine (hb b' ?_ (lt_of_block hv)).trans hv
  rintro rfl
  exact e (hr.inj _ _ _ (ak hM) (ak h) hj hb')
 arr:=fun i sz0 v0 xs0 h=>by
  by_cases e:id=i
  ·subst e
   rw [hM] at h
   injection h with h; injection h with e1 e2 e3
   subst e1; subst e2; subst e3
   refine .inr ⟨ver',xs',bf (ak hM),hv,fun he=>⟨rfl,hl he,fun b' vs t hb' hv=>?_⟩⟩
   rw [hj] at hb'; injection hb' with hb'; subst hb'
   exact hw vs t hv
  ·refine .inr ⟨v0,xs0,by rw [aO e]; exact h,Nat.le_refl _,fun _=>⟨rfl,rfl,fun b' vs t hb' hv=>⟨vs,?_,rfl⟩⟩⟩
   refine (hb b' ?_ (lt_of_block hv)).trans hv
   rintro rfl
   exact e (hr.inj _ _ _ (ak hM) (ak h) hj hb')
 tags:=fun b0 vs0 t0 fr0 h=>by
  by_cases e:b0=b
  ·subst e
   obtain ⟨b',vs,t,g1,g2,_⟩:=hr.rL hM hj
   rw [hj] at g1; injection g1 with g1; subst g1
   rw [g2] at h; injection h with h; injection h with h1 h2 h3
   subst h1; subst h2
   obtain ⟨vs',k1,k2⟩:=hw vs t g2
   exact ⟨_,_,k1,k2⟩
  ·exact ⟨vs0,fr0,(hb b0 e (lt_of_block h)).trans h,rfl⟩
 cW:=fun b0 off h=>by
  have hne:b0≠b:=by
   rintro rfl
   obtain ⟨sz,n,h1,_⟩:=h.2 id (ak hM) hj
   rw [hM] at h1; cases h1
  refine ⟨⟨Nat.lt_of_lt_of_le h.1 q.size,fun i hi hji=>?_,h.3⟩,World.cell?_of_block (w:=w) (hb b0 hne h.1)⟩
  have e:id≠i:=by rintro rfl; rw [hj] at hji; injection hji with hji; exact hne hji.symm
  rw [aO e]
  exact h.2 i (by simpa using hi) hji
 mw:=fun b0 hlt h=>by
  have hne:b0≠b:=by rintro rfl; exact h id (ak hM) hj
  exact ⟨hb b0 hne hlt,fun i hi=>h i (by simpa using hi)⟩
def Rel.xN {id b sz ver ver':Nat} {xs xs':List ae} (hM:M[id]?=some (.arr sz ver xs)) (hj:j id=some b) (hr:Rel j M w) (q:Quiet w w')
  (hb:∀b',b'≠b->b'<w.heap.size->w'.heap[b']?=w.heap[b']?) (hw:∀vs t,w.heap[b]?=some (.cells vs t (0,0))->∃vs',w'.heap[b]?=some (.cells vs' t (0,0))/\vs'.size=vs.size)
  (hv:ver<=ver') (hl:ver'=ver->xs'.length=xs.length) (hh:∀j' M',Ext j M w j' M' w'->Ad j' M' w' b sz xs'):Rel j (M.set id (.arr sz ver' xs')) w':=by
 have ext:Ext j M w j (M.set id (.arr sz ver' xs')) w':=Ext.xN hM hj hr q hb hw hv hl
 refine ⟨fun i i' b0 hi hi'=>hr.inj i i' b0 (by simpa using hi) (by simpa using hi'),fun i b0 hi h=>Nat.lt_of_lt_of_le (hr.lt i b0 (by simpa using hi) h) q.size,fun i bx0 h hf=>?_,fun i sz0 n0 b0 h hji=>?_,fun i sz0 v0 xs0 h=>?_,fun i b0 hi h=>hr.nc i b0 (by simpa using hi) h,fun b0 off h=>Nat.lt_of_lt_of_le (hr.rD b0 off h) q.size⟩
 ·have e:id≠i:=by rintro rfl; rw [bf (ak hM)] at h; injection h with h; subst h; cases hf
  rw [aO e] at h
  obtain ⟨b0,h1,h2⟩:=hr.fix i bx0 h hf
  refine ⟨b0,h1,h2.mono ext (hb b0 ?_ (hr.lt i b0 (ak h) h1))⟩
  rintro rfl
  exact e (hr.inj _ _ _ (ak hM) (ak h) hj h1)
 ·have e:id≠i:=by rintro rfl; rw [bf (ak hM)] at h; cases h
  rw [aO e] at h
  obtain ⟨vs,t0,h1⟩:=hr.tick i sz0 n0 b0 h hji
  refine ⟨vs,t0,(hb b0 ?_ (lt_of_block h1)).trans h1⟩
  rintro rfl
  exact e (hr.inj _ _ _ (ak hM) (ak h) hj hji)
 ·by_cases e:id=i
  ·subst e
   rw [bf (ak hM)] at h
   injection h with h; injection h with e1 e2 e3
   subst e1; subst e2; subst e3
   obtain ⟨vs,t,g⟩:=hh _ _ ext
   exact .inr ⟨b,vs,t,hj,g⟩
  ·rw [aO e] at h
   refine iR hr ext h rfl fun b0 h1=>hb b0 ?_ (hr.lt i b0 (ak h) h1)
   rintro rfl
   exact e (hr.inj _ _ _ (ak hM) (ak h) hj h1)
def Ext.freeze {id sz ver:Nat} {xs:List ae} (hM:M[id]?=some (.arr sz ver xs)):Ext j M w j (M.set id (.tick sz xs.length)) w where
 len:=by simp
 size:=Nat.le_refl _
 os:=rfl
 tape:=rfl
 output:=rfl
 X:=rfl
 fix:=fun i b0 h hf=>⟨rfl,by
  have e:id≠i:=by rintro rfl; rw [hM] at h; injection h with h; subst h; cases hf
  exact ⟨b0,by rw [aO e]; exact h,rfl⟩⟩
 tick:=fun i sz0 n0 h=>by
  have e:id≠i:=by rintro rfl; rw [hM] at h; cases h
  exact ⟨n0,Nat.le_refl _,by rw [aO e]; exact h,fun _=>⟨rfl,fun b' vs0 t0 hb' hv=>⟨vs0,hv,rfl⟩⟩⟩
 arr:=fun i sz0 v0 xs0 h=>by
  by_cases e:id=i
  ·subst e
   rw [hM] at h
   injection h with h; injection h with e1 e2 e3
   subst e1; subst e2; subst e3
   exact .inl ⟨_,bf (ak hM)⟩
  ·exact .inr ⟨v0,xs0,by rw [aO e]; exact h,Nat.le_refl _,fun _=>⟨rfl,rfl,fun b' vs t hb' hv=>⟨vs,hv,rfl⟩⟩⟩
 tags:=fun b vs t fr h=>⟨vs,fr,h,rfl⟩
 cW:=fun b0 off h=>by
  refine ⟨⟨h.1,fun i hi hji=>?_,h.3⟩,rfl⟩
  have e:id≠i:=by
   rintro rfl
   obtain ⟨sz,n,h1,_⟩:=h.2 id (ak hM) hji
   rw [hM] at h1; cases h1
  rw [aO e]
  exact h.2 i (by simpa using hi) hji
 mw:=fun b0 hlt h=>⟨rfl,fun i hi=>h i (by simpa using hi)⟩
def Rel.freeze {id sz ver:Nat} {xs:List ae} (hM:M[id]?=some (.arr sz ver xs)) (hr:Rel j M w):Rel j (M.set id (.tick sz xs.length)) w:=by
 have ext:Ext j M w j (M.set id (.tick sz xs.length)) w:=Ext.freeze hM
 refine ⟨fun i i' b0 hi hi'=>hr.inj i i' b0 (by simpa using hi) (by simpa using hi'),fun i b0 hi h=>hr.lt i b0 (by simpa using hi) h,fun i bx0 h hf=>?_,fun i sz0 n0 b0 h hji=>?_,fun i sz0 v0 xs0 h=>?_,fun i b0 hi h=>hr.nc i b0 (by simpa using hi) h,hr.rD⟩
 ·have e:id≠i:=by rintro rfl; rw [bf (ak hM)] at h; injection h with h; subst h; cases hf
  rw [aO e] at h
  obtain ⟨b0,h1,h2⟩:=hr.fix i bx0 h hf
  exact ⟨b0,h1,h2.mono ext rfl⟩
 ·by_cases e:id=i
  ·subst e
   obtain ⟨b,vs,t,g1,g2,_⟩:=hr.rL hM hji
   rw [hji] at g1; injection g1 with g1; subst g1
   exact ⟨vs,t,g2⟩
  ·rw [aO e] at h
   exact hr.tick i sz0 n0 b0 h hji
 ·have e:id≠i:=by rintro rfl; rw [bf (ak hM)] at h; cases h
  rw [aO e] at h
  exact iR hr ext h rfl fun b0 h1=>rfl
end
def pO {w:World} {cW saf':Nat->Nat->Prop} {b lo hi sz cap:Nat} {vs:Array Value} {t:TypeId} {xs:List ae} (hw:w.heap[b]?=some (.cells vs t (0,0))) (hwid:∀x,x∈xs->x.cells.length=sz)
  (hc:∀(q:Nat) (x:ae) (k:Nat) (c:ae),xs[q]?=some x->x.cells[k]?=some c->∃v,vs[q*sz+k]?=some v/\bX w cW c v) (hm:∀b off,cW b off->saf' b off) (hs:∀off,off<xs.length*sz->saf' b off)
  (h1:lo<=hi) (h2:hi<=xs.length) (h3:hi-lo<=cap):bX w saf' (.slice .sh ((xs.take hi).drop lo)) (.slice (some ⟨b,lo*sz,none⟩) (hi-lo) cap):=by
 have hget:∀(i:Nat) (x:ae),((xs.take hi).drop lo)[i]?=some x->xs[lo+i]?=some x/\lo+i<hi:=by
  intro i x h
  rw [List.getElem?_drop] at h
  have hlt:lo+i<hi:=by have:=ak h; simp at this; omega
  rw [List.getElem?_take_of_lt hlt] at h
  exact ⟨h,hlt⟩
 have idx:∀i k,lo*sz+(i*sz+k)=(lo+i)*sz+k:=fun i k=>by rw [Nat.add_mul]; omega
 refine .slice _ _ _ _ b (lo*sz) sz (fun p=>(vs[lo*sz+p]?).getD undef) (by simp; omega) (by omega) (fun _=>rfl) (fun x hx=>hwid x (List.mem_of_mem_take (List.mem_of_mem_drop hx))) (fun i x k c hx hk=>?_) fun i x k c hx hk=>?_
 ·obtain ⟨g1,g2⟩:=hget i x hx
  obtain ⟨v,g3,g4⟩:=hc _ x k c g1 hk
  have hk':k<sz:=by rw [<-hwid x (List.mem_of_getElem? g1)]; exact ak hk
  rw [idx]
  refine ⟨by simp [World.cell?,hw,g3],hs _ ?_⟩
  calc (lo+i)*sz+k<(lo+i)*sz+sz:=by omega
   _=(lo+i+1)*sz:=by rw [Nat.add_mul (lo+i) 1]; omega
   _<=xs.length*sz:=Nat.mul_le_mul_right _ (by omega)
 ·obtain ⟨g1,g2⟩:=hget i x hx
  obtain ⟨v,g3,g4⟩:=hc _ x k c g1 hk
  simp only [idx,g3,Option.getD_some]
  exact g4.mono fun b off h=>⟨hm b off h,rfl⟩
end
section
open Go Go.RowKit
variable [ew]
def db (j:J) (M:ai) (w:World) (x:ae×ai) (v:Value) (w':World):Prop:=∃j',Rel j' x.2 w'/\Ext j M w j' x.2 w'/\cm j' x.2 w' x.1 v
def Ak (j:J) (M:ai) (w:World) (x:ae×ai) (u:Value) (w':World):Prop:=x.1 = .gw u/\∃j',Rel j' x.2 w'/\Ext j M w j' x.2 w'
def oa (j:J) (M:ai) (w:World) (x:ae×ai) (e:Ending) (w':World):Prop :=
 (∃v,e = .returned v/\db j M w x v w')\/∃u,e = .panicked [{ v:=u,recovered:=false }]/\Ak j M w x u w'
def oa.ret {j:J} {M:ai} {w:World} {x:ae×ai} {e:Ending} {w':World} (h:oa j M w x e w') (hx:x.1.dK=false):∃v,e = .returned v/\db j M w x v w':=by
 rcases h with h|⟨u,_,h,_⟩
 ·exact h
 ·rw [h] at hx; cases hx
def bl (P:Program) (f:Nat) (args:List ae) (M:ai) (x:ae×ai):Prop :=
 ∀(j:J) (w:World) (vs:Array Value),Rel j M w->kS j M w->args.length=vs.size->(∀(i:Nat) (c:ae) (v:Value),args[i]?=some c->vs[i]?=some v->cm j M w c v) ->
  Calls P f vs w fun e w'=>oa j M w x e w'
def fZ (P:Program) (f:Nat) (args:List ae) (M:ai) (x:ae×ai):Prop :=
 ∀(j:J) (w:World) (vs:Array Value),Rel j M w->kS j M w->args.length=vs.size->(∀(i:Nat) (c:ae) (v:Value),args[i]?=some c->vs[i]?=some v->cm j M w c v) ->
  Calls P f vs w fun e w'=>∃v j',e = .returned v/\Rel j' x.2 w'/\Ext j M w j' x.2 w'/\cm j' x.2 w' x.1 v
def fZ.call {P:Program} {f:Nat} {args:List ae} {M:ai} {x:ae×ai} (h:fZ P f args M x):bl P f args M x:=fun j w vs h1 h2 h3 h4 =>
 (h j w vs h1 h2 h3 h4).mono fun e w' ⟨v,j',he,g1,g2,g3⟩ => .inl ⟨v,he,j',g1,g2,g3⟩
def iM (P:Program) (C:cu):Prop:=∀f a M x,C f a M=some x->fX P f=true/\bl P f a M x
section
variable {j:J} {M:ai} {w:World} {P:Program}
def db.still {v:Value} {y:ae} (hr:Rel j M w) (h:cm j M w y v):db j M w (y,M) v w:=⟨j,hr,Ext.refl j M w,h⟩
def Ar {v:Value} {x:ae} (h:Aq v=some x):cm j M w x v:=by
 unfold Aq at h
 split at h<;>first
  |(injection h with h; subst h; first|exact .plain (.bool _)|exact .plain (.int _ _)|exact .plain (.str _)|exact .plain (.raw _ rfl)|exact .c0 _)
  |cases h
def Ao {cW:Nat->Nat->Prop}:∀ {vs:List Value} {l:List ae},HQ vs=some l->l.length=vs.length/\∀(i:Nat) (c:ae) (v:Value),l[i]?=some c->vs[i]?=some v->bX w cW c v
 | [],l,h=>by
  simp [HQ] at h; subst h
  exact ⟨rfl,fun i c v h=>by simp at h⟩
 |v::r,l,h=>by
  simp only [HQ] at h
  rw [Option.bind_eq_some_iff] at h
  obtain ⟨x,hx,h⟩:=h
  rw [Option.bind_eq_some_iff] at h
  obtain ⟨l',hl,h⟩:=h
  injection h with h; subst h
  obtain ⟨h1,h2⟩:=Ao hl
  refine ⟨by simp [h1],fun i c u hc hu=>?_⟩
  cases i with
  |zero =>
   simp at hc hu; subst hc; subst hu
   unfold R1 at hx
   split at hx<;>first
    |(injection hx with hx; subst hx; first|exact .bool _|exact .int _ _|exact .str _|exact .raw _ rfl)
    |cases hx
  |succ i=>exact h2 i c u (by simpa using hc) (by simpa using hu)
def im:∀ {vs:List Value} {l:List ae},kB vs=some l->l.length=vs.length/\∀(i:Nat) (c:ae) (v:Value),l[i]?=some c->vs[i]?=some v->cm j M w c v
 | [],l,h=>by
  simp [kB] at h; subst h
  exact ⟨rfl,fun i c v h=>by simp at h⟩
 |v::r,l,h=>by
  simp only [kB] at h
  rw [Option.bind_eq_some_iff] at h
  obtain ⟨x,hx,h⟩:=h
  rw [Option.bind_eq_some_iff] at h
  obtain ⟨l',hl,h⟩:=h
  injection h with h; subst h
  obtain ⟨h1,h2⟩:=im hl
  refine ⟨by simp [h1],fun i c u hc hu=>?_⟩
  cases i with
  |zero=>simp at hc hu; subst hc; subst hu; exact Ar hx
  |succ i=>exact h2 i c u (by simpa using hc) (by simpa using hu)
def Ap {v:Value} {x:ae} (h:HR v=some x):cm j M w x v:=by
 unfold HR at h
 split at h
 ·rename_i vs
  rw [Option.bind_eq_some_iff] at h
  obtain ⟨l,hl,h⟩:=h
  injection h with h; subst h
  obtain ⟨h1,h2⟩:=im (j:=j) (M:=M) (w:=w) hl
  exact .agg (by simpa using h1) fun i c v hc hv=>h2 i c v hc (by simpa using hv)
 ·exact Ar h
def aX {env:Env} {a:Act} (he:aU j M w env a) {x:Operand} {y:cM} (h:bG x=some y):cm j M w (y.ev env) (a.eval x):=by
 unfold bG at h
 split at h
 ·injection h with h; subst h; exact he.at' _
 ·rw [Option.bind_eq_some_iff] at h
  obtain ⟨z,hz,h⟩:=h
  injection h with h; subst h
  exact Ap hz
 ·injection h with h; subst h
  exact .func (by simp) fun i c v hc=>by simp at hc
 ·rename_i g
  rw [Option.bind_eq_some_iff] at h
  obtain ⟨vs,hg,h⟩:=h
  rw [Option.bind_eq_some_iff] at h
  obtain ⟨l,hl,h⟩:=h
  injection h with h; subst h
  obtain ⟨h1,h2⟩:=Ao (w:=w) (cW:=gv j M w) hl
  refine .dM (b:=g) (off:=0) (vs:=fun k=>(vs[k]?).getD undef) fun k c hk=>?_
  have hk':=ak hk
  have hv:vs[k]?=some (vs[k]'(by omega)):=List.getElem?_eq_getElem (by omega)
  obtain ⟨h3,h4⟩:=he.gl.g g vs k _ hg hv
  rw [Nat.zero_add,h4,hv]
  exact ⟨rfl,h3,h2 k c _ hk hv⟩
def mb {env:Env} {a:Act} (he:aU j M w env a):∀ {xs:List Operand} {ys:List cM},nn xs=some ys ->
  ys.length=xs.length/\∀(i:Nat) (y:cM) (x:Operand),ys[i]?=some y->xs[i]?=some x->cm j M w (y.ev env) (a.eval x)
 | [],ys,h=>by
  simp [nn] at h; subst h
  exact ⟨rfl,fun i y x h=>by simp at h⟩
 |x::r,ys,h=>by
  simp only [nn] at h
  rw [Option.bind_eq_some_iff] at h
  obtain ⟨y,hy,h⟩:=h
  rw [Option.bind_eq_some_iff] at h
  obtain ⟨l,hl,h⟩:=h
  injection h with h; subst h
  obtain ⟨h1,h2⟩:=mb he hl
  refine ⟨by simp [h1],fun i y' x' hy' hx'=>?_⟩
  cases i with
  |zero=>simp at hy' hx'; subst hy'; subst hx'; exact aX he hy
  |succ i=>exact h2 i y' x' (by simpa using hy') (by simpa using hx')
def cm.dH {b:Bool} {v:Value} (h:cm j M w (.bool b) v):v = .bool b:=by cases h with|plain h=>cases h; rfl
def cm.cg {k:IntKind} {n:Int} {v:Value} (h:cm j M w (.int k n) v):v = .int k n:=by cases h with|plain h=>cases h; rfl
def cm.dS {s:List UInt8} {v:Value} (h:cm j M w (.str s) v):v = .string (bs s):=by cases h with|plain h=>cases h; rfl
def cm.fA {cs:List ae} {v:Value} (h:cm j M w (.agg cs) v):∃vs,v = .agg vs/\cs.length=vs.size/\∀(i:Nat) (c:ae) (u:Value),cs[i]?=some c->vs[i]?=some u->cm j M w c u:=by
 cases h with
 |plain h=>cases h
 |agg hl h=>exact ⟨_,rfl,hl,h⟩
def cm.lI {cs:List ae} {v:Value} (h:cm j M w (.tuple cs) v):∃vs,v = .tuple vs/\cs.length=vs.size/\∀(i:Nat) (c:ae) (u:Value),cs[i]?=some c->vs[i]?=some u->cm j M w c u:=by
 cases h with
 |plain h=>cases h
 |tuple hl h=>exact ⟨_,rfl,hl,h⟩
def cm.kI {f:Nat} {cs:List ae} {v:Value} (h:cm j M w (.func f cs) v):∃vs,v = .func (.func f) #[] vs/\cs.length=vs.size/\∀(i:Nat) (c:ae) (u:Value),cs[i]?=some c->vs[i]?=some u->cm j M w c u:=by
 cases h with
 |plain h=>cases h
 |func hl h=>exact ⟨_,rfl,hl,h⟩
def cm.iG {id off:Nat} {v:Value} (h:cm j M w (.ptr id off) v):∃b,id<M.length/\(∃cs,M[id]?=some (.cells cs))/\j id=some b/\v = .pointer (some ⟨b,off,none⟩):=by
 cases h with
 |plain h=>cases h
 |ptr h1 h2 h3=>exact ⟨_,h1,h2,h3,rfl⟩
def cm.nM {id:Nat} {v:Value} (h:cm j M w (.df id) v):∃b,(∃ks vs,M[id]?=some (.map ks vs))/\j id=some b/\v = .map (some b):=by
 cases h with
 |plain h=>cases h
 |df h1 h2=>exact ⟨_,h1,h2,rfl⟩
def cm.wA {id:Nat} {v:Value} (h:cm j M w (.dW id) v):∃b,(∃s p,M[id]?=some (.gA s p))/\j id=some b/\v = .pointer (some ⟨b,0,none⟩):=by
 cases h with
 |plain h=>cases h
 |dW h1 h2=>exact ⟨_,h1,h2,rfl⟩
def cm.zI {f:Nat} {fs:List ae} {v:Value} (h:cm j M w (.jx f fs) v):∃vs:Array Value,v = .func (.func f) vs #[]/\fs.length=vs.size/\∀(i:Nat) (c:ae) (v:Value),fs[i]?=some c->vs[i]?=some v->vh w (gv j M w) c v:=by
 cases h with
 |plain h=>cases h
 |jx hl h=>exact ⟨_,rfl,hl,h⟩
def cm.xR {id t:Nat} {v:Value} (h:cm j M w (.cv id t) v):∃b:Nat,(∃cs,M[id]?=some (.cells cs))/\j id=some b/\(∃vs fr,w.heap[b]?=some (.cells vs t fr))/\(v = .pointer none\/v = .pointer (some ⟨b,0,none⟩)):=by
 cases h with
 |plain h=>cases h
 |cv h1 h2 h3 h4=>exact ⟨_,h1,h2,h3,h4⟩
def cm.Br {t id off:Nat} {v:Value} (h:cm j M w (.dJ t id off) v):∃b:Nat,(∃cs,M[id]?=some (.cells cs))/\j id=some b/\v = .iface t (.pointer (some ⟨b,off,none⟩)):=by
 cases h with
 |plain h=>cases h
 |dJ h1 h2=>exact ⟨_,h1,h2,rfl⟩
def cm.wO {k t:Nat} {x:Bool} {l:List UInt8} {v:Value} (h:cm j M w (.du k t x l) v):∃n,M[k]?=some (.tick 1 n)/\l.length<=n/\bX w (gv j M w) (.slice .sh (l.map jt)) v/\(l.length=n->Al j w k n t x v):=by
 cases h with
 |plain h=>cases h
 |du h1 h2 h3 h4=>exact ⟨_,h1,h2,h3,h4⟩
def cm.A7 {ks vs:List ae} {v:Value} (h:cm j M w (.eb ks vs) v):∃(b:Nat) (es:Array MapEntry) (clock:Nat),v = .map (some b)/\w.heap[b]?=some (.map es clock)/\ks.length=es.size/\vs.length=es.size /\
  (∀(i:Nat) (k:ae) (e:MapEntry),ks[i]?=some k->es[i]?=some e->bX w (gv j M w) k e.key)/\∀(i:Nat) (v:ae) (e:MapEntry),vs[i]?=some v->es[i]?=some e->vh w (gv j M w) v e.val:=by
 cases h with
 |plain h=>cases h
 |eb hb hf hx hw hk hv hks hvs=>exact ⟨_,_,_,rfl,hw,hk,hv,hks,hvs⟩
def cm.gW {id ver sz lo hi:Nat} {v:Value} (h:cm j M w (.bu id ver sz lo hi) v):((∃b off c,v = .slice (some ⟨b,off,none⟩) (hi-lo) c/\hi-lo<=c)\/hi-lo=0/\∃A,v = .slice A 0 0)/\id<M.length/\(∀bx,M[id]?=some bx->bx.loose=true) /\
  ∀sz' v' xs,M[id]?=some (.arr sz' v' xs)->ver<=v'/\(v'=ver->sz'=sz/\lo<=hi/\hi<=xs.length/\((xs=[]/\j id=none/\∃A,v = .slice A 0 0)\/∃b cap vs t,j id=some b/\v = .slice (some ⟨b,lo*sz,none⟩) (hi-lo) cap/\hi-lo<=cap/\w.heap[b]?=some (.cells vs t (0,0))/\(lo+cap)*sz<=vs.size)):=by
 cases h with
 |plain h=>cases h
 |bu h0 h1 h2 h3=>exact ⟨h0,h1,h2,h3⟩
def cm.rK {id ver sz lo hi:Nat} {v:Value} (h:cm j M w (.bu id ver sz lo hi) v):∃A cap,v = .slice A (hi-lo) cap:=by
 rcases h.gW.1 with ⟨b,off,c,e,_⟩|⟨e,A,e'⟩
 ·exact ⟨_,_,e⟩
 ·exact ⟨A,0,by rw [e,e']⟩
def cm.Pr {id ver sz lo hi:Nat} {v:Value} (h:cm j M w (.bu id ver sz lo hi) v) (hne:lo<hi):∃b off c,v = .slice (some ⟨b,off,none⟩) (hi-lo) c/\hi-lo<=c :=
 h.gW.1.resolve_right fun e=>by omega
def cm.kG {id ver i off:Nat} {v:Value} (h:cm j M w (.dC id ver i off) v):(∃b o,v = .pointer (some ⟨b,o,none⟩))/\id<M.length/\(∀bx,M[id]?=some bx->bx.loose=true) /\
  ∀sz v' xs,M[id]?=some (.arr sz v' xs)->ver<=v'/\(v'=ver->i<xs.length/\∃b,j id=some b/\v = .pointer (some ⟨b,i*sz+off,none⟩)):=by
 cases h with
 |plain h=>cases h
 |dC h0 h1 h2 h3=>exact ⟨h0,h1,h2,h3⟩
def cm.mf {cs:List ae} {v:Value} (h:cm j M w (.dM cs) v):∃(b off:Nat) (vs:Nat->Value),v = .pointer (some ⟨b,off,none⟩) /\
  ∀(k:Nat) (c:ae),cs[k]?=some c->w.cell? ⟨b,off+k,none⟩=some (vs k)/\gv j M w b (off+k)/\bX w (gv j M w) c (vs k):=by
 cases h with
 |plain h=>cases h
 | @dM _ b off vs h=>exact ⟨b,off,vs,rfl,h⟩
def bX.nil (cW:Nat->Nat->Prop) (A:Option Addr) (cap:Nat):bX w cW (.slice .sh []) (.slice A 0 cap) :=
 .slice [] A 0 cap 0 0 0 (fun _=>undef) rfl (Nat.zero_le _) (fun h=>absurd rfl h) (fun x h=>by simp at h) (fun i x k c h=>by simp at h) (fun i x k c h=>by simp at h)
def cm.bA {tk:Tk} {xs:List ae} {v:Value} (h:cm j M w (.slice tk xs) v):bX w (gv j M w) (.slice .sh xs) v:=by
 cases h with
 |plain h=>cases h with|slice=>exact .slice _ _ _ _ _ _ _ _ (by assumption) (by assumption) (by assumption) (by assumption) (by assumption) (by assumption)
 |c0 A=>exact bX.nil _ _ _
 |own _ _ h _=>exact h
def bX.bA {cW:Nat->Nat->Prop} {xs:List ae} {v:Value} (h:bX w cW (.slice .sh xs) v):∃(A:Option Addr) (cap b off sz:Nat) (vs:Nat->Value),v = .slice A xs.length cap/\xs.length<=cap/\(xs≠[]->A=some ⟨b,off,none⟩) /\
  (∀x,x∈xs->x.cells.length=sz)/\(∀(i:Nat) (x:ae) (k:Nat) (c:ae),xs[i]?=some x->x.cells[k]?=some c->w.cell? ⟨b,off+(i*sz+k),none⟩=some (vs (i*sz+k))/\cW b (off+(i*sz+k))) /\
  (∀(i:Nat) (x:ae) (k:Nat) (c:ae),xs[i]?=some x->x.cells[k]?=some c->bX w cW c (vs (i*sz+k))):=by
 cases h with
 |slice _ A len cap b off sz vs hl hc ha hz hs hr=>subst hl; exact ⟨A,cap,b,off,sz,vs,rfl,hc,ha,hz,hs,hr⟩
end
def ja (P:Program) (o:Oper) (a:Act) (w:World) (v:Value) (w':World):Prop :=
 (execOp a.eval o).run P w = .ok (.value v) w'\/((execOp a.eval o).run P w = .ok .skip w'/\v=undef)
def ar {α β:Type} {x:Option α} {f:α->Option β} {y:β} (h:x.bind f=some y):∃a,x=some a/\f a=some y:=by
 cases x with
 |none=>cases h
 |some a=>exact ⟨a,rfl,h⟩
section
variable {P:Program} {C:cu} {o:Oper} {env:Env} {M:ai} {j:J} {w:World} {a:Act} {x:ae×ai}
def bz {t:TypeId} {d:TypeDesc} (h:P.underlying t=some d):(underlying t).run P w = .ok d w:=by simp [underlying,h]
def gZ {t:TypeId} {i:TypeInfo} (h:P.info? t=some i):(typeInfo t).run P w = .ok i w:=by simp [typeInfo,h]
def xg {t:TypeId} {n:Nat} (h:iP P t=some n):∃i,P.info? t=some i/\i.size=n:=by
 obtain ⟨i,h1,h2⟩:=ar h
 exact ⟨i,h1,by injection h2⟩
def dA {t:TypeId} {n:Nat} (h:iP P t=some n):(sizeOf t).run P w = .ok n w:=by
 obtain ⟨i,h1,h2⟩:=xg h
 simp [sizeOf,gZ h1,h2]
def eR {t:TypeId} {g:Bool} (h:rJ P t=some g):(isAgg t).run P w = .ok g w:=by
 obtain ⟨d,h1,h2⟩:=ar h
 injection h2 with h2
 subst h2
 simp only [isAgg,Sem.run_bind,bz h1,Result.andThen_ok]
 cases d<;>rfl
def fM (b off n:Nat):(⟨b,off,none⟩:Addr).add n=⟨b,off+n,none⟩:=by
 unfold Addr.add; split<;>simp_all
def vw (hr:Rel j M w) (he:aU j M w env a) {y:Operand} {z:cM} (hop:o.op = .move y\/o.op = .assign y) (hz:bG y=some z) (h:bD C env M (.mv z)=some x) :
  ∃v w',ja P o a w v w'/\db j M w x v w':=by
 simp only [bD] at h; injection h with h; subst h
 exact ⟨a.eval y,w,.inl (by rcases hop with hop|hop<;>simp [execOp,hop]),.still hr (aX he hz)⟩
def Rm (hr:Rel j M w) (he:aU j M w env a) {c p q:Operand} {c' p' q':cM} (hop:o.op = .pick c p q) (hc:bG c=some c') (hp:bG p=some p') (hq:bG q=some q')
  (h:bD C env M (.pick c' p' q')=some x):∃v w',ja P o a w v w'/\db j M w x v w':=by
 simp only [bD] at h
 have h1:=aX he hc
 split at h
 ·rename_i t ht
  rw [ht] at h1
  have h1:=h1.dH
  rcases fE h with ⟨rfl,h⟩|⟨rfl,h⟩<;>(injection h with h; subst h)
  ·exact ⟨a.eval p,w,.inl (by simp [execOp,hop,asBool,h1]),.still hr (aX he hp)⟩
  ·exact ⟨a.eval q,w,.inl (by simp [execOp,hop,asBool,h1]),.still hr (aX he hq)⟩
 ·cases h
def X0 (hr:Rel j M w) (he:aU j M w env a) {y:Operand} {z:cM} (hop:o.op = .nilCheck y) (hz:bG y=some z) (h:bD C env M (.UD z)=some x) :
  ∃v w',ja P o a w v w'/\db j M w x v w':=by
 simp only [bD] at h
 have h1:=aX he hz
 split at h
 ·rename_i id off e
  injection h with h; subst h
  rw [e] at h1
  obtain ⟨b,_,_,_,hv⟩:=h1.iG
  exact ⟨_,w,.inl (by simp only [execOp,hop,hv]; rfl),.still hr (hv▸h1)⟩
 ·rename_i cs e
  injection h with h; subst h
  rw [e] at h1
  obtain ⟨b,off,vs,hv,_⟩:=h1.mf
  exact ⟨_,w,.inl (by simp only [execOp,hop,hv]; rfl),.still hr (hv▸h1)⟩
 ·rename_i f caps e
  injection h with h; subst h
  rw [e] at h1
  obtain ⟨vs,hv,_⟩:=h1.kI
  exact ⟨_,w,.inl (by simp only [execOp,hop,hv]; rfl),.still hr (hv▸h1)⟩
 ·rename_i id v0 i off e
  injection h with h; subst h
  rw [e] at h1
  obtain ⟨⟨b,q,hv⟩,_⟩:=h1.kG
  exact ⟨_,w,.inl (by simp only [execOp,hop,hv]; rfl),.still hr (hv▸h1)⟩
 ·cases h
def X2 (hr:Rel j M w) (he:aU j M w env a) {y:Operand} {z:cM} {t:TypeId} (hop:o.op = .unOp .not t y) (hz:bG y=some z) (h:bD C env M (.not z)=some x) :
  ∃v w',ja P o a w v w'/\db j M w x v w':=by
 simp only [bD] at h
 have h1:=aX he hz
 split at h
 ·rename_i b e
  injection h with h; subst h
  rw [e] at h1
  exact ⟨_,w,.inl (by simp only [execOp,hop,h1.dH]; rfl),.still hr (.plain (.bool _))⟩
 ·cases h
def X1 (hr:Rel j M w) (he:aU j M w env a) {y:Operand} {z:cM} {t:TypeId} (hop:o.op = .unOp .neg t y) (hz:bG y=some z) (h:bD C env M (.neg z)=some x) :
  ∃v w',ja P o a w v w'/\db j M w x v w':=by
 simp only [bD] at h
 have h1:=aX he hz
 split at h
 ·rename_i k n e
  injection h with h; subst h
  rw [e] at h1
  exact ⟨_,w,.inl (by simp only [execOp,hop,h1.cg]; rfl),.still hr (.plain (.int _ _))⟩
 ·cases h
def Rg (hr:Rel j M w) (he:aU j M w env a) {y:Operand} {z:cM} {s d:TypeId} {k0 k:IntKind} (hop:o.op = .convert s d y) (hs:P.underlying s=some (.int k0)) (hd:P.underlying d=some (.int k))
  (hz:bG y=some z) (h:bD C env M (.conv k z)=some x):∃v w',ja P o a w v w'/\db j M w x v w':=by
 simp only [bD] at h
 have h1:=aX he hz
 split at h
 ·rename_i k1 n e
  injection h with h; subst h
  rw [e] at h1
  refine ⟨.int k (k.wrap n),w,.inl ?_,.still hr (.plain (.int _ _))⟩
  simp [execOp,hop,convert,bz hs,bz hd,h1.cg,Conv.intToInt]
 ·cases h
def Ro (hr:Rel j M w) (he:aU j M w env a) {y:Operand} {z:cM} {s d:TypeId} (hop:o.op = .convert s d y) (hs:P.underlying s=some .string) (hd:P.underlying d=some .string)
  (hz:bG y=some z) (h:bD C env M (.same z)=some x):∃v w',ja P o a w v w'/\db j M w x v w':=by
 simp only [bD] at h
 have h1:=aX he hz
 split at h
 ·rename_i l e
  injection h with h; subst h
  rw [e] at h1
  refine ⟨.string (bs l),w,.inl ?_,.still hr (.plain (.str _))⟩
  simp [execOp,hop,convert,bz hs,bz hd,h1.dS]
 ·cases h
def adG (hr:Rel j M w) (he:aU j M w env a) {f:Nat} {first caps:Array Operand} {zs:List cM} (hop:o.op = .makeFunc (.func f) first caps) (hf:first.isEmpty=true) (hz:nn caps.toList=some zs)
  (h:bD C env M (.fn f zs)=some x):∃v w',ja P o a w v w'/\db j M w x v w':=by
 simp only [bD] at h
 injection h with h; subst h
 obtain ⟨h1,h2⟩:=mb he hz
 have hf':first = #[]:=by simpa using hf
 refine ⟨.func (.func f) #[] (caps.map a.eval),w,.inl ?_,.still hr (.func (by simpa using h1) fun i c v hc hv=>?_)⟩
 ·simp [execOp,hop,Instr.makeFunc,hf']
 ·rw [List.getElem?_map,Option.map_eq_some_iff] at hc
  obtain ⟨y,hy,rfl⟩:=hc
  rw [Array.getElem?_map,Option.map_eq_some_iff] at hv
  obtain ⟨z,hz',rfl⟩:=hv
  exact h2 i y z hy (by simpa using hz')
def DM (hr:Rel j M w) (he:aU j M w env a) {y:Operand} {z:cM} {i:Nat} (hop:o.op = .extract y i) (hz:bG y=some z) (h:bD C env M (.extract z i)=some x) :
  ∃v w',ja P o a w v w'/\db j M w x v w':=by
 simp only [bD] at h
 have h1:=aX he hz
 split at h
 ·rename_i vs e
  obtain ⟨c,hc,h⟩:=av h
  injection h with h; subst h
  rw [e] at h1
  obtain ⟨us,hv,hl,hu⟩:=h1.lI
  rw [bW] at hc
  have hi:=ak hc
  have hui:us[i]?=some (us[i]'(by omega)):=Array.getElem?_eq_getElem (by omega)
  exact ⟨_,w,.inl (by simp [execOp,hop,Instr.extract,hv,hui]),.still hr (hu i c _ hc hui)⟩
 ·cases h
def Ri (hr:Rel j M w) (he:aU j M w env a) {c:Call} {y:Operand} {z:cM} {t:TypeId} (hop:o.op = .call c) (hb:c.callee = .builtin .len) (ha:c.args.toList=[y])
  (ht:c.argTypes[0]?=some t) (hs:P.underlying t=some .string) (hz:bG y=some z) (h:bD C env M (.M7 z)=some x):∃v w',ja P o a w v w'/\db j M w x v w':=by
 simp only [bD] at h
 have h1:=aX he hz
 split at h
 ·rename_i l e
  injection h with h; subst h
  rw [e] at h1
  have ha':c.args = #[y]:=by rw [<-ha]
  refine ⟨.int .i64 l.length,w,.inl ?_,.still hr (.plain (.int _ _))⟩
  have hsz:(bs l).size=l.length:=by simp [bs,ByteArray.size]
  simp [execOp,hop,resolve,hb,invoke,builtin,Builtin.len_,ha',ht,bz hs,h1.dS,goInt,hsz]
 ·cases h
def Rj (hr:Rel j M w) (he:aU j M w env a) {c:Call} {y:Operand} {z:cM} {t e:TypeId} (hop:o.op = .call c) (hb:c.callee = .builtin .len) (ha:c.args.toList=[y])
  (ht:c.argTypes[0]?=some t) (hs:P.underlying t=some (.slice e)) (hz:bG y=some z) (h:bD C env M (.GG z)=some x):∃v w',ja P o a w v w'/\db j M w x v w':=by
 simp only [bD] at h
 have h1:=aX he hz
 split at h
 ·rename_i tk l e
  injection h with h; subst h
  rw [e] at h1
  have ha':c.args = #[y]:=by rw [<-ha]
  obtain ⟨A,cap,b,off,sz,vs,hv,_⟩:=h1.bA.bA
  refine ⟨.int .i64 l.length,w,.inl ?_,.still hr (.plain (.int _ _))⟩
  simp [execOp,hop,resolve,hb,invoke,builtin,Builtin.len_,ha',ht,bz hs,hv,goInt]
 ·rename_i id v0 sz lo hi e
  injection h with h; subst h
  rw [e] at h1
  have ha':c.args = #[y]:=by rw [<-ha]
  obtain ⟨A,cap,hv⟩:=h1.rK
  refine ⟨.int .i64 (hi-lo:Nat),w,.inl ?_,.still hr (.plain (.int _ _))⟩
  simp [execOp,hop,resolve,hb,invoke,builtin,Builtin.len_,ha',ht,bz hs,hv,goInt]
 ·cases h
def yC (hr:Rel j M w) (he:aU j M w env a) {c:Call} {y y':Operand} {z z':cM} {mx:Bool} (hop:o.op = .call c) (hb:c.callee = .builtin (if mx then .max else .min)) (ha:c.args.toList=[y,y'])
  (hz:bG y=some z) (hz':bG y'=some z') (h:bD C env M (.tZ mx z z')=some x):∃v w',ja P o a w v w'/\db j M w x v w':=by
 simp only [bD] at h
 have h1:=aX he hz
 have h2:=aX he hz'
 split at h
 ·rename_i k n k' n' e e'
  injection h with h; subst h
  rw [e] at h1
  rw [e'] at h2
  have ha':c.args = #[y,y']:=by rw [<-ha]
  refine ⟨_,w,.inl ?_,.still hr (.plain (.int _ _))⟩
  cases mx
  ·simp [execOp,hop,resolve,hb,invoke,builtin,Builtin.min_,Builtin.min2,ha',h1.cg,h2.cg,List.foldlM]
  ·simp [execOp,hop,resolve,hb,invoke,builtin,Builtin.max_,Builtin.max2,ha',h1.cg,h2.cg,List.foldlM]
 ·cases h
def G2 (hr:Rel j M w) (he:aU j M w env a) {y i:Operand} {z z':cM} {t:TypeId} (hop:o.op = .index t y i) (ht:P.underlying t=some .string) (hz:bG y=some z) (hz':bG i=some z')
  (h:bD C env M (.tN z z')=some x):∃v w',ja P o a w v w'/\db j M w x v w':=by
 simp only [bD] at h
 have h1:=aX he hz
 have h2:=aX he hz'
 split at h
 ·rename_i l k n e e'
  obtain ⟨hn,h⟩:=bc h
  obtain ⟨b,hb,h⟩:=av h
  injection h with h; subst h
  rw [e] at h1
  rw [e'] at h2
  refine ⟨.int .u8 b.toNat,w,.inl ?_,.still hr (.plain (.int _ _))⟩
  have hg:(bs l)[n.toNat]?=some b:=by
   have hlt:=ak hb
   have:n.toNat<(bs l).size:=by simp [bs,ByteArray.size]; exact hlt
   rw [getElem?_pos (bs l) n.toNat this]
   congr 1
   have h3:l[n.toNat]=b:=by
    have:=List.getElem?_eq_getElem hlt
    rw [hb] at this; injection this with this; exact this.symm
   exact h3
  simp [execOp,hop,Instr.index,asIntOf,bz ht,h1.dS,h2.cg,hn,hg]
 ·cases h
def GW (hr:Rel j M w) (he:aU j M w env a) {y:Operand} {z:cM} {s:TypeId} {fs:Array Field} {f:Field} {i:Nat} (hop:o.op = .field s y i) (hs:P.underlying s=some (.struct fs)) (hf:fs[i]?=some f)
  (hg:rJ P f.type=some false) (hz:bG y=some z) (h:bD C env M (.wb f.offset z)=some x):∃v w',ja P o a w v w'/\db j M w x v w':=by
 simp only [bD] at h
 have h1:=aX he hz
 split at h
 ·rename_i cs e
  obtain ⟨c,hc,h⟩:=av h
  injection h with h; subst h
  rw [e] at h1
  obtain ⟨us,hv,hl,hu⟩:=h1.fA
  rw [bW] at hc
  have hi:=ak hc
  have hui:us[f.offset]?=some (us[f.offset]'(by omega)):=Array.getElem?_eq_getElem (by omega)
  refine ⟨_,w,.inl ?_,.still hr (hu _ c _ hc hui)⟩
  simp [execOp,hop,Instr.field,bz hs,hf,asAgg,hv,part,eR hg,hui]
 ·cases h
def GX (hr:Rel j M w) (he:aU j M w env a) {y:Operand} {z:cM} {s:TypeId} {fs:Array Field} {f:Field} {i n:Nat} (hop:o.op = .field s y i) (hs:P.underlying s=some (.struct fs)) (hf:fs[i]?=some f)
  (hg:rJ P f.type=some true) (hn:iP P f.type=some n) (hz:bG y=some z) (h:bD C env M (.wc f.offset n z)=some x):∃v w',ja P o a w v w'/\db j M w x v w':=by
 simp only [bD] at h
 have h1:=aX he hz
 split at h
 ·rename_i cs e
  split at h
  ·rename_i hle
   injection h with h; subst h
   rw [e] at h1
   obtain ⟨us,hv,hl,hu⟩:=h1.fA
   refine ⟨.agg (us.extract f.offset (f.offset+n)),w,.inl ?_,.still hr (.agg (by simp; omega) fun p c u hc hu'=>?_)⟩
   ·simp [execOp,hop,Instr.field,bz hs,hf,asAgg,hv,part,eR hg,dA hn]
   ·have hp:p<n:=by have:=ak hc; simp at this; omega
    rw [List.getElem?_take_of_lt hp,List.getElem?_drop] at hc
    rw [Array.getElem?_extract] at hu'
    split at hu'
    ·exact hu _ c u hc hu'
    ·cases hu'
  ·cases h
 ·cases h
def NJ (hr:Rel j M w) (he:aU j M w env a) {y:Operand} {z:cM} {s:TypeId} {fs:Array Field} {f:Field} {i:Nat} (hop:o.op = .fieldAddr s y i) (hs:P.underlying s=some (.struct fs)) (hf:fs[i]?=some f)
  {n:Nat} (hn:iP P f.type=some n) (hpos:0<n) (hz:bG y=some z) (h:bD C env M (.k9 f.offset z)=some x):∃v w',ja P o a w v w'/\db j M w x v w':=by
 simp only [bD] at h
 have h1:=aX he hz
 have hrun:∀b off,a.eval y = .pointer (some ⟨b,off,none⟩)->(execOp a.eval o).run P w = .ok (.value (.pointer (some ⟨b,off+f.offset,none⟩))) w:=by
  intro b off hv
  have hne:n≠0:=by omega
  simp [execOp,hop,Instr.fieldAt,bz hs,hf,Instr.sureAddr,hv,fieldPlace,dA hn,hne,fM]
 split at h
 ·rename_i id off e
  injection h with h; subst h
  rw [e] at h1
  obtain ⟨b,h2,h3,h4,hv⟩:=h1.iG
  exact ⟨_,w,.inl (hrun _ _ hv),.still hr (.ptr h2 h3 h4)⟩
 ·rename_i cs e
  injection h with h; subst h
  rw [e] at h1
  obtain ⟨b,off,vs,hv,hc⟩:=h1.mf
  refine ⟨_,w,.inl (hrun _ _ hv),.still hr (.dM (vs:=fun k=>vs (f.offset+k)) fun k c hk=>?_)⟩
  rw [List.getElem?_drop] at hk
  have:=hc _ c hk
  rw [Nat.add_assoc]
  exact this
 ·rename_i id v0 i0 o0 e
  injection h with h; subst h
  rw [e] at h1
  obtain ⟨⟨b,q,hv⟩,h2,h3,h4⟩:=h1.kG
  refine ⟨_,w,.inl (hrun _ _ hv),.still hr (.dC ⟨_,_,rfl⟩ h2 h3 fun sz v' xs hM=>?_)⟩
  obtain ⟨g1,g2⟩:=h4 sz v' xs hM
  refine ⟨g1,fun he=>?_⟩
  obtain ⟨g3,b',g4,g5⟩:=g2 he
  rw [hv] at g5
  injection g5 with g5; injection g5 with g5; injection g5 with e1 e2 e3
  subst e1; subst e2
  exact ⟨g3,_,g4,by rw [Nat.add_assoc]⟩
 ·cases h
end
def PD (l:List UInt8):∀(n i:Nat) (acc:List UInt8),i+n=l.length->ByteArray.toList.loop (bs l) i acc=acc.reverse++l.drop i:=by
 intro n
 induction n with
 |zero =>
  intro i acc h
  have hs:(bs l).size=l.length:=by simp [bs,ByteArray.size]
  rw [ByteArray.toList.loop,if_neg (by omega)]
  simp [show i=l.length by omega]
 |succ n ih =>
  intro i acc h
  have hs:(bs l).size=l.length:=by simp [bs,ByteArray.size]
  rw [ByteArray.toList.loop,if_pos (by omega),ih (i+1) _ (by omega)]
  have hg:(bs l).get! i=l[i]'(by omega):=by
   have hi:i<l.length:=by omega
   simp [bs,ByteArray.get!,hi]
  rw [hg,List.reverse_cons,List.append_assoc,List.singleton_append,<-List.drop_eq_getElem_cons]
def nk (l:List UInt8):(bs l).toList=l:=by
 rw [ByteArray.toList,PD l l.length 0 [] (by omega)]; simp
def rQ (l:List UInt8):(bs l).size=l.length:=by simp [bs,ByteArray.size]
def B9:∀a b:List UInt8,Op.bytesLess a b=strLt a b
 | [],[]=>rfl
 | [],_::_=>rfl
 |_::_,[]=>rfl
 |a::x,b::y=>by simp [Op.bytesLess,strLt,B9 x y]
def FP (a b:List UInt8):bs a++bs b=bs (a++b):=by
 apply ByteArray.ext
 simp [bs,ByteArray.data_append]
def oo (a:List UInt8) (l h:Nat):(bs a).extract l h=bs ((a.take h).drop l):=by
 apply ByteArray.ext
 simp [bs,ByteArray.data_extract,List.drop_take]
section
variable {P:Program} {C:cu} {o:Oper} {env:Env} {M:ai} {j:J} {w:World} {a:Act} {x:ae×ai}
def Gu (op:BinOp) (t:TypeId) (y z:Operand) (k k':IntKind) (m n:Int):(eqGuard op t y z (.int k m) (.int k' n)).run P w = .ok () w:=by
 unfold eqGuard; cases op<;>simp
def Gv (op:BinOp) (t:TypeId) (y z:Operand) (m n:ByteArray):(eqGuard op t y z (.string m) (.string n)).run P w = .ok () w:=by
 unfold eqGuard; cases op<;>simp
def wo (op:BinOp) (t:TypeId) (y z:Operand) (m n:Bool):(eqGuard op t y z (.bool m) (.bool n)).run P w = .ok () w:=by
 unfold eqGuard; cases op<;>simp
def Py {op:BinOp} {b:Fv} (hb:FR op=some b) {t:TypeId} {k k':IntKind} {m n:Int} {r:ae} (h:jb b (.int k m) (.int k' n)=some r) :
  ∃v,(binOp op t (.int k m) (.int k' n)).run P w = .ok v w/\bX w (gv j M w) r v:=by
 cases op<;>simp only [FR,reduceCtorEq,Option.some.injEq] at hb<;>subst hb<;>simp only [jb] at h
 case shl =>
  split at h
  ·rename_i hn
   injection h with h; subst h
   exact ⟨_,by simp [binOp,Op.shift,Int.not_lt.2 hn],.int _ _⟩
  ·cases h
 case shr =>
  split at h
  ·rename_i hn
   injection h with h; subst h
   exact ⟨_,by simp [binOp,Op.shift,Int.not_lt.2 hn],.int _ _⟩
  ·cases h
 case quo =>
  split at h
  ·cases h
  ·rename_i hk
   split at h
   ·cases h
   ·rename_i hn
    injection h with h; subst h
    have hk:k=k':=by simpa using hk
    subst hk
    exact ⟨_,by simp [binOp,Op.intDiv,hn],.int _ _⟩
 case rem =>
  split at h
  ·cases h
  ·rename_i hk
   split at h
   ·cases h
   ·rename_i hn
    injection h with h; subst h
    have hk:k=k':=by simpa using hk
    subst hk
    exact ⟨_,by simp [binOp,Op.intDiv,hn],.int _ _⟩
 case and =>
  split at h
  ·cases h
  ·rename_i hk
   injection h with h; subst h
   have hk:k=k':=by simpa using hk
   subst hk
   exact ⟨_,by simp [binOp,Op.intBits]; rfl,.int _ _⟩
 case or =>
  split at h
  ·cases h
  ·rename_i hk
   injection h with h; subst h
   have hk:k=k':=by simpa using hk
   subst hk
   exact ⟨_,by simp [binOp,Op.intBits]; rfl,.int _ _⟩
 case xor =>
  split at h
  ·cases h
  ·rename_i hk
   injection h with h; subst h
   have hk:k=k':=by simpa using hk
   subst hk
   exact ⟨_,by simp [binOp,Op.intBits]; rfl,.int _ _⟩
 all_goals
  split at h
  ·cases h
  ·rename_i hk
   injection h with h; subst h
   have hk:k=k':=by simpa using hk
   subst hk
   first
    |exact ⟨_,by simp [binOp,Op.intArith],.int _ _⟩
    |exact ⟨_,by simp [binOp,Op.intCmp],.bool _⟩
def Pz {op:BinOp} {b:Fv} (hb:FR op=some b) {t:TypeId} {m n:List UInt8} {r:ae} (h:jb b (.str m) (.str n)=some r) :
  ∃v,(binOp op t (.string (bs m)) (.string (bs n))).run P w = .ok v w/\bX w (gv j M w) r v:=by
 cases op<;>simp only [FR,reduceCtorEq,Option.some.injEq] at hb<;>subst hb<;>simp only [jb,reduceCtorEq] at h
 case add =>
  split at h
  ·cases h
  ·rename_i hn
   injection h with h; subst h
   refine ⟨.string (bs m++bs n),?_,by rw [FP]; exact .str _⟩
   simp only [binOp,Op.stringOp,rQ]
   rw [if_neg hn]
   rfl
 all_goals
  injection h with h; subst h
  exact ⟨_,by simp only [binOp,Op.stringOp,nk,B9]; rfl,.bool _⟩
def NA (hr:Rel j M w) (he:aU j M w env a) {op:BinOp} {b:Fv} {y y':Operand} {z z':cM} {t t':TypeId} (hop:o.op = .binOp op t y y' t') (hb:FR op=some b) (hz:bG y=some z) (hz':bG y'=some z')
  (h:bD C env M (.bin b z z')=some x):∃v w',ja P o a w v w'/\db j M w x v w':=by
 simp only [bD] at h
 have h1:=aX he hz
 have h2:=aX he hz'
 obtain ⟨r,hr',h⟩:=av h
 injection h with h; subst h
 generalize hu:z.ev env=u at *
 generalize hu':z'.ev env=u' at *
 cases u<;>cases u'<;>try (simp [jb] at hr'; done)
 ·rename_i k m k' n
  obtain ⟨v,hv,hp⟩:=Py (P:=P) (w:=w) (j:=j) (M:=M) (t:=t) hb hr'
  exact ⟨v,w,.inl (by simp [execOp,hop,h1.cg,h2.cg,Gu,hv]),.still hr (.plain hp)⟩
 ·rename_i m n
  obtain ⟨v,hv,hp⟩:=Pz (P:=P) (w:=w) (j:=j) (M:=M) (t:=t) hb hr'
  exact ⟨v,w,.inl (by simp [execOp,hop,h1.dS,h2.dS,Gv,hv]),.still hr (.plain hp)⟩
def NI (hr:Rel j M w) (he:aU j M w env a) {neg:Bool} {y y':Operand} {z z':cM} {t t':TypeId} (hop:o.op = .binOp (if neg then .neq else .eql) t y y' t') (ht:P.underlying t=some .bool)
  (hz:bG y=some z) (hz':bG y'=some z') (h:bD C env M (.YT neg z z')=some x):∃v w',ja P o a w v w'/\db j M w x v w':=by
 simp only [bD] at h
 have h1:=aX he hz
 have h2:=aX he hz'
 split at h
 ·rename_i m n e e'
  injection h with h; subst h
  rw [e] at h1
  rw [e'] at h2
  have heq:(Op.equal t (.bool m) (.bool n)).run P w = .ok (m==n) w:=by
   unfold Op.equal
   rw [show Op.maxDepth=9999+1 from rfl,Op.equalIn]
   simp [bz ht]
  cases neg
  ·exact ⟨.bool (m==n),w,.inl (by simp [execOp,hop,h1.dH,h2.dH,wo,binOp,heq]),.still hr (.plain (.bool _))⟩
  ·exact ⟨.bool (!(m==n)),w,.inl (by simp [execOp,hop,h1.dH,h2.dH,wo,binOp,heq]),.still hr (.plain (.bool _))⟩
 ·cases h
def ji {env:Env} {a:Act} (he:aU j M w env a) {y:Operand} {z:cM} (hz:bG y=some z) {n:Nat} {i:Int} (h:cS env n (some z)=some i) {m:Nat} (h0:0<=i) (h1:i<=m) (code:BoundsCode) :
  (Instr.sliceBound (a.eval y) m code).run P w = .ok i.toNat w:=by
 unfold cS at h
 have h2:=aX he hz
 simp only at h
 split at h
 ·rename_i k i' e
  injection h with h; subst h
  rw [e] at h2
  simp [Instr.sliceBound,h2.cg,asIntOf,h0,h1]
 ·cases h
def jy {y:Option Operand} {z:Option cM} (h:ti y=some z):(y=none/\z=none)\/∃y' z',y=some y'/\z=some z'/\bG y'=some z':=by
 cases y with
 |none=>simp [ti] at h; exact .inl ⟨rfl,h.symm⟩
 |some y =>
  simp only [ti] at h
  obtain ⟨z',h1,h2⟩:=ar h
  injection h2 with h2
  exact .inr ⟨y,z',rfl,h2.symm,h1⟩
def qY {env:Env} {a:Act} (he:aU j M w env a) {lo hi:Option Operand} {lo' hi':Option cM} (hlo:ti lo=some lo') (hhi:ti hi=some hi') {len cap:Nat} {l h:Int}
  (h1:cS env len hi'=some h) (h2:cS env 0 lo'=some l) (hh0:0<=h) (hh:h<=len) (hl0:0<=l) (hl:l<=h) (hc:len<=cap) (isS:Bool) :
  (Instr.sliceBounds isS len cap (lo.map a.eval) (hi.map a.eval) none).run P w = .ok (l.toNat,h.toNat,cap) w:=by
 unfold Instr.sliceBounds
 have hhn:((h.toNat:Nat):Int)=h:=Int.toNat_of_nonneg hh0
 rcases jy hhi with ⟨rfl,rfl⟩|⟨y,z,rfl,rfl,hz⟩<;>rcases jy hlo with ⟨rfl,rfl⟩|⟨y',z',rfl,rfl,hz'⟩
 ·simp [cS] at h1 h2; subst h1; subst h2; simp
 ·simp [cS] at h1; subst h1
  have:=ji (P:=P) he hz' h2 hl0 (m:=len) (by omega) .sliceB
  simp [this]
 ·simp [cS] at h2; subst h2
  have:=ji (P:=P) he hz h1 hh0 (m:=cap) (by omega) (if isS then .sliceAcap else .sliceAlen)
  simp [this]
 ·have t1:=ji (P:=P) he hz h1 hh0 (m:=cap) (by omega) (if isS then .sliceAcap else .sliceAlen)
  have t2:=ji (P:=P) he hz' h2 hl0 (m:=h.toNat) (by omega) .sliceB
  simp [t1,t2]
def G3 (hr:Rel j M w) (he:aU j M w env a) {y:Operand} {lo hi:Option Operand} {z:cM} {lo' hi':Option cM} {t:TypeId} (hop:o.op = .slice t y lo hi none) (ht:P.underlying t=some .string)
  (hz:bG y=some z) (hlo:ti lo=some lo') (hhi:ti hi=some hi') (h:bD C env M (.ui z lo' hi')=some x):∃v w',ja P o a w v w'/\db j M w x v w':=by
 simp only [bD] at h
 have h1:=aX he hz
 split at h
 ·rename_i s e
  obtain ⟨hh,h2,h⟩:=av h
  obtain ⟨l,h3,h⟩:=av h
  obtain ⟨⟨c1,c2,c3,c4⟩,h⟩:=bc h
  injection h with h; subst h
  rw [e] at h1
  have hb:=qY (P:=P) he hlo hhi (cap:=s.length) h2 h3 c1 c2 c3 c4 (Nat.le_refl _) false
  refine ⟨.string (bs ((s.take hh.toNat).drop l.toNat)),w,.inl ?_,.still hr (.plain (.str _))⟩
  simp [execOp,hop,Instr.sliceAt,bz ht,Instr.slice,h1.dS,rQ,hb,oo]
 ·cases h
def bX.part {cW:Nat->Nat->Prop} {xs:List ae} {A:Option Addr} {cap m l h n:Nat} (hx:bX w cW (.slice .sh xs) (.slice A xs.length cap)) (hw:wid xs n) (hl:l<=h) (hh:h<=xs.length) (hm:h<=m) :
  bX w cW (.slice .sh ((xs.take h).drop l)) (.slice (if m=l then A else A.map (·.add (l*n))) (h-l) (m-l)):=by
 obtain ⟨A',cap',b,off,sz,vs,hv,hc,ha,hz,hs,hrp⟩:=hx.bA
 injection hv with e1 e2 e3
 subst e1; subst e3
 have hlen:((xs.take h).drop l).length=h-l:=by simp; omega
 have el:∀i x,((xs.take h).drop l)[i]?=some x->xs[l+i]?=some x/\i<h-l:=by
  intro i x hi
  have hlt:=ak hi
  rw [hlen] at hlt
  rw [List.getElem?_drop,List.getElem?_take_of_lt (by omega)] at hi
  exact ⟨hi,hlt⟩
 refine .slice _ _ _ _ b (off+l*sz) sz (fun p=>vs (l*sz+p)) hlen.symm (by omega) (fun hne=>?_) (fun x hx=>hz x (List.mem_of_mem_take (List.mem_of_mem_drop hx))) (fun i x k c hi hk=>?_) (fun i x k c hi hk=>?_)
 ·have:0<h-l:=by
   rw [<-hlen]; exact List.length_pos_iff.2 hne
  rw [if_neg (by omega)]
  have hne':xs≠[]:=by rintro rfl; simp at hne
  rw [ha hne']
  have:n=sz:=by
   obtain ⟨x,r,rfl⟩:=List.exists_cons_of_ne_nil hne'
   rw [<-hw x (by simp),hz x (by simp)]
  simp [fM,this]
 ·obtain ⟨h1,_⟩:=el i x hi
  have:=hs (l+i) x k c h1 hk
  rw [show (l+i)*sz+k=l*sz+(i*sz+k) by rw [Nat.add_mul]; omega] at this
  rw [show off+l*sz+(i*sz+k)=off+(l*sz+(i*sz+k)) by omega]
  exact this
 ·obtain ⟨h1,_⟩:=el i x hi
  have:=hrp (l+i) x k c h1 hk
  rw [show (l+i)*sz+k=l*sz+(i*sz+k) by rw [Nat.add_mul]; omega] at this
  exact this
def G4 (hr:Rel j M w) (he:aU j M w env a) {y:Operand} {lo hi mx:Option Operand} {z:cM} {lo' hi' mx':Option cM} {t e:TypeId} {n:Nat} (hop:o.op = .slice t y lo hi mx) (ht:P.underlying t=some (.slice e))
  (hn:iP P e=some n) (hz:bG y=some z) (hlo:ti lo=some lo') (hhi:ti hi=some hi') (hmx:ti mx=some mx') (hmh:mx'.isNone=true\/hi'.isSome=true)
  (h:bD C env M (.uj n z lo' hi' mx')=some x):∃v w',ja P o a w v w'/\db j M w x v w':=by
 simp only [bD] at h
 have h1:=aX he hz
 split at h
 ·rename_i tk xs ez
  obtain ⟨hw,h⟩:=bc h
  obtain ⟨hh,h2,h⟩:=av h
  obtain ⟨l,h3,h⟩:=av h
  rw [ez] at h1
  have hp:=h1.bA
  obtain ⟨A,cap,b,off,sz,vs,hv,hc,_⟩:=hp.bA
  rw [hv] at hp
  rcases jy hmx with ⟨rfl,rfl⟩|⟨my,mz,rfl,rfl,hmz⟩
  ·simp only at h
   obtain ⟨⟨c1,c2,c3,c4⟩,h⟩:=bc h
   injection h with h; subst h
   have hb:=qY (P:=P) he hlo hhi (cap:=cap) h2 h3 c1 c2 c3 c4 hc true
   refine ⟨_,w,.inl ?_,.still hr (.plain (hp.part (m:=cap) (l:=l.toNat) (h:=hh.toNat) hw (by omega) (by omega) (by omega)))⟩
   simp [execOp,hop,Instr.sliceAt,bz ht,Instr.slice,hv,hb,dA hn]
  ·simp only at h
   split at h
   ·rename_i mk m em
    obtain ⟨⟨c0,c0',c1,c2,c3,c4⟩,h⟩:=bc h
    have hm:=aX he hmz
    rw [em] at hm
    have hmr:(Instr.sliceBound (a.eval my) cap .slice3Acap).run P w = .ok m.toNat w:=by
     simp [Instr.sliceBound,hm.cg,asIntOf,c0,show m<=cap by omega]
    have hbs:(Instr.sliceBounds true xs.length cap (lo.map a.eval) (hi.map a.eval) (some (a.eval my))).run P w = .ok (l.toNat,hh.toNat,m.toNat) w:=by
     unfold Instr.sliceBounds
     rcases jy hhi with ⟨rfl,rfl⟩|⟨hy,hz',rfl,rfl,hhz⟩
     ·simp at hmh
     ·have t1:=ji (P:=P) he hhz h2 c1 (m:=m.toNat) (by omega) .slice3B
      rcases jy hlo with ⟨rfl,rfl⟩|⟨y',z',rfl,rfl,hz'⟩
      ·simp [cS] at h3; subst h3
       simp [hmr,t1]
      ·have t2:=ji (P:=P) he hz' h3 c3 (m:=hh.toNat) (by omega) .slice3C
       simp [hmr,t1,t2]
    have hrun:(execOp a.eval o).run P w = .ok (.value (.slice (if m.toNat=l.toNat then A else A.map (·.add (l.toNat*n))) (hh.toNat-l.toNat) (m.toNat-l.toNat))) w:=by
     simp [execOp,hop,Instr.sliceAt,bz ht,Instr.slice,hv,hbs,dA hn]
    rcases fE h with ⟨hm0,h⟩|⟨hm0,h⟩<;>(injection h with h; subst h)
    ·have hm0:m=0:=by simpa using hm0
     subst hm0
     have e1:hh=0:=by omega
     have e2:l=0:=by omega
     subst e1; subst e2
     exact ⟨_,w,.inl hrun,.still hr (.c0 _)⟩
    ·exact ⟨_,w,.inl hrun,.still hr (.plain (hp.part (m:=m.toNat) hw (by omega) (by omega) (by omega)))⟩
   ·cases h
 ·rename_i id v0 sz' al ah ez
  obtain ⟨hsz,h⟩:=bc h
  subst hsz
  obtain ⟨hh,h2,h⟩:=av h
  obtain ⟨l,h3,h⟩:=av h
  rw [ez] at h1
  obtain ⟨hs0,g1,g2,g3⟩:=h1.gW
  obtain ⟨A,cap,hv,hc,hA⟩:∃A cap,a.eval y = .slice A (ah-al) cap/\ah-al<=cap/\(0<ah-al->∃b off,A=some ⟨b,off,none⟩):=by
   rcases hs0 with ⟨b,off,c,e,e'⟩|⟨e,A,e'⟩
   ·exact ⟨_,c,e,e',fun _=>⟨b,off,rfl⟩⟩
   ·exact ⟨A,0,by rw [e,e'],by omega,fun h=>by omega⟩
  have key:∀m:Nat,m<=cap->0<=l->l<hh->hh<=m->hh<=(ah-al:Nat)->cm j M w (.bu id v0 sz' (al+l.toNat) (al+hh.toNat)) (.slice (A.map (·.add (l.toNat*sz'))) (hh.toNat-l.toNat) (m-l.toNat)):=by
   intro m hmc hl0 hlh hhm hha
   obtain ⟨b,off,rfl⟩:=hA (by clear g3 g2 h1 hv; omega)
   simp only [Option.map_some,fM]
   have e0:al+hh.toNat-(al+l.toNat)=hh.toNat-l.toNat:=by clear g3 g2 h1 hv; omega
   have e6:hh.toNat-l.toNat<=m-l.toNat:=by clear g3 g2 h1 hv; omega
   have e7:al+l.toNat+(m-l.toNat)<=al+cap:=by clear g3 g2 h1 hv; omega
   have e8:al+l.toNat<=al+hh.toNat:=by clear g3 g2 h1 hv; omega
   have e9:al+hh.toNat<=ah:=by clear g3 g2 h1 hv; omega
   refine .bu (.inl ⟨b,off+l.toNat*sz',m-l.toNat,by rw [e0],by rw [e0]; exact e6⟩) g1 g2 fun sz v' xs hM=>?_
   obtain ⟨k1,k2⟩:=g3 sz v' xs hM
   refine ⟨k1,fun hev=>?_⟩
   obtain ⟨l0,l1,l2,⟨rfl,_⟩|⟨b',cap',vs,t',l3,l4,l5,l6,l7⟩⟩:=k2 hev
   ·simp at l2; omega
   rw [hv] at l4
   injection l4 with l4 l4' l4''
   injection l4 with l4; injection l4 with e1 e2 e3
   subst e1; subst e2; subst l4''
   exact ⟨l0,e8,Nat.le_trans e9 l2,.inr ⟨b,m-l.toNat,vs,t',l3,by rw [e0,Nat.add_mul],by rw [e0]; exact e6,l6,Nat.le_trans (Nat.mul_le_mul_right _ e7) l7⟩⟩
  rcases jy hmx with ⟨rfl,rfl⟩|⟨my,mz,rfl,rfl,hmz⟩
  ·simp only at h
   obtain ⟨⟨c1,c2,c3,c4⟩,h⟩:=bc h
   have hb:=qY (P:=P) he hlo hhi (cap:=cap) h2 h3 c1 c2 c3 c4 hc true
   have hrun:(execOp a.eval o).run P w = .ok (.value (.slice (if cap=l.toNat then A else A.map (·.add (l.toNat*sz'))) (hh.toNat-l.toNat) (cap-l.toNat))) w:=by
    simp [execOp,hop,Instr.sliceAt,bz ht,Instr.slice,hv,hb,dA hn]
   rcases fE h with ⟨hm0,h⟩|⟨hm0,h⟩<;>(injection h with h; subst h)
   ·have:l=hh:=by simpa using hm0
    subst this
    refine ⟨_,w,.inl hrun,.still hr (.plain ?_)⟩
    rw [Nat.sub_self]
    exact bX.nil _ _ _
   ·have:l≠hh:=by simpa using hm0
    rw [if_neg (by omega)] at hrun
    exact ⟨_,w,.inl hrun,.still hr (key cap (Nat.le_refl _) c3 (by omega) (by omega) c2)⟩
  ·simp only at h
   split at h
   ·rename_i mk m em
    obtain ⟨⟨c0,c0',c1,c2,c3,c4⟩,h⟩:=bc h
    have hm:=aX he hmz
    rw [em] at hm
    have hmr:(Instr.sliceBound (a.eval my) cap .slice3Acap).run P w = .ok m.toNat w:=by
     simp [Instr.sliceBound,hm.cg,asIntOf,c0,show m<=cap by omega]
    have hbs:(Instr.sliceBounds true (ah-al) cap (lo.map a.eval) (hi.map a.eval) (some (a.eval my))).run P w = .ok (l.toNat,hh.toNat,m.toNat) w:=by
     unfold Instr.sliceBounds
     rcases jy hhi with ⟨rfl,rfl⟩|⟨hy,hz',rfl,rfl,hhz⟩
     ·simp at hmh
     ·have t1:=ji (P:=P) he hhz h2 c1 (m:=m.toNat) (by omega) .slice3B
      rcases jy hlo with ⟨rfl,rfl⟩|⟨y',z',rfl,rfl,hz'⟩
      ·simp [cS] at h3; subst h3
       simp [hmr,t1]
      ·have t2:=ji (P:=P) he hz' h3 c3 (m:=hh.toNat) (by omega) .slice3C
       simp [hmr,t1,t2]
    have hrun:(execOp a.eval o).run P w = .ok (.value (.slice (if m.toNat=l.toNat then A else A.map (·.add (l.toNat*sz'))) (hh.toNat-l.toNat) (m.toNat-l.toNat))) w:=by
     simp [execOp,hop,Instr.sliceAt,bz ht,Instr.slice,hv,hbs,dA hn]
    rcases fE h with ⟨hm0,h⟩|⟨hm0,h⟩
    ·injection h with h; subst h
     have hm0:m=0:=by simpa using hm0
     subst hm0
     have e1:hh=0:=by omega
     have e2:l=0:=by omega
     subst e1; subst e2
     exact ⟨_,w,.inl hrun,.still hr (.c0 _)⟩
    ·rcases fE h with ⟨hm1,h⟩|⟨hm1,h⟩<;>(injection h with h; subst h)
     ·have:l=hh:=by simpa using hm1
      subst this
      refine ⟨_,w,.inl hrun,.still hr (.plain ?_)⟩
      rw [Nat.sub_self]
      exact bX.nil _ _ _
     ·have:l≠hh:=by simpa using hm1
      rw [if_neg (by omega)] at hrun
      exact ⟨_,w,.inl hrun,.still hr (key m.toNat (by omega) c3 (by omega) (by omega) (by omega))⟩
   ·cases h
 ·cases h
def NK (hr:Rel j M w) (he:aU j M w env a) {y i:Operand} {z z':cM} {t e:TypeId} {n:Nat} (hop:o.op = .indexAddr t y i) (ht:P.underlying t=some (.slice e)) (hn:iP P e=some n)
  (hz:bG y=some z) (hz':bG i=some z') (h:bD C env M (.oO n z z')=some x):∃v w',ja P o a w v w'/\db j M w x v w':=by
 simp only [bD] at h
 have h1:=aX he hz
 have h2:=aX he hz'
 split at h
 ·rename_i tk xs k m ez ez'
  obtain ⟨h0,h⟩:=bc h
  obtain ⟨el,hel,h⟩:=av h
  split at h
  ·rename_i hwd
   injection h with h; subst h
   rw [ez] at h1
   rw [ez'] at h2
   obtain ⟨A,cap,b,off,sz,vs,hv,hc,ha,hsz,hs,hrp⟩:=h1.bA.bA
   have hlt:=ak hel
   have hne:xs≠[]:=by rintro rfl; simp at hlt
   have hA:=ha hne
   have hsz':sz=n:=by rw [<-hwd]; exact (hsz el (List.mem_of_getElem? hel)).symm
   subst hsz'
   subst hA
   refine ⟨.pointer (some ⟨b,off+m.toNat*sz,none⟩),w,.inl ?_,.still hr (.dM (vs:=fun q=>vs (m.toNat*sz+q)) fun q c hq=>?_)⟩
   ·have hm:m<xs.length:=by omega
    simp [execOp,hop,Instr.indexAt,bz ht,hv,h2.cg,asIntOf,h0,hm,dA hn,fM]
   ·have h3:=hs _ el q c hel hq
    have h4:=hrp _ el q c hel hq
    rw [Nat.add_assoc]
    exact ⟨h3.1,h3.2,h4⟩
  ·cases h
 ·rename_i id v0 sz' lo hi k m ez ez'
  obtain ⟨⟨h0,hm,hsz⟩,h⟩:=bc h
  injection h with h; subst h
  subst hsz
  rw [ez] at h1
  rw [ez'] at h2
  have hlt0:lo+m.toNat<hi:=by omega
  obtain ⟨b,off,cap,hv,hcap⟩:=h1.Pr (by omega)
  obtain ⟨_,g1,g2,g3⟩:=h1.gW
  refine ⟨.pointer (some ⟨b,off+m.toNat*sz',none⟩),w,.inl ?_,.still hr (.dC ⟨_,_,rfl⟩ g1 g2 fun sz v' xs hM=>?_)⟩
  ·simp [execOp,hop,Instr.indexAt,bz ht,hv,h2.cg,asIntOf,h0,hm,dA hn,fM]
  ·obtain ⟨k1,k2⟩:=g3 sz v' xs hM
   refine ⟨k1,fun he=>?_⟩
   obtain ⟨rfl,l1,l2,⟨rfl,_⟩|⟨b',cap',vs,t',l3,l4,l5,l6,l7⟩⟩:=k2 he
   ·exact absurd (Nat.lt_of_lt_of_le hlt0 l2) (by simp)
   rw [hv] at l4
   injection l4 with l4; injection l4 with l4; injection l4 with e1 e2 e3
   subst e1; subst e2
   have hlt:lo+m.toNat<xs.length:=Nat.lt_of_lt_of_le hlt0 l2
   exact ⟨hlt,_,l3,by rw [Nat.add_mul]; simp⟩
 ·cases h
def zH (b off:Nat) (u:Nat->Value):∀(n i:Nat) (acc:Array Value),(∀k,k<n->w.cell? ⟨b,off+(i+k),none⟩=some (u (i+k))) ->
  (loadCellsFrom ⟨b,off,none⟩ i n acc).run P w = .ok (acc++((List.range n).map fun k=>u (i+k)).toArray) w:=by
 intro n
 induction n with
 |zero=>intro i acc _; simp [loadCellsFrom]
 |succ n ih =>
  intro i acc h
  have h0:=h 0 (by omega)
  simp only [Nat.add_zero] at h0
  have hi:=ih (i+1) (acc.push (u i)) fun k hk=>by
   have:=h (k+1) (by omega)
   rw [show i+(k+1)=i+1+k by omega] at this
   exact this
  simp only [loadCellsFrom,Sem.run_bind,fM,run_load,h0,Result.andThen_ok,hi]
  congr 1
  apply Array.ext'
  simp [List.range_succ_eq_map,Function.comp_def,Nat.add_comm,Nat.add_left_comm]
def iV (b off n:Nat) (u:Nat->Value) (h:∀k,k<n->w.cell? ⟨b,off+k,none⟩=some (u k)) :
  (loadCells ⟨b,off,none⟩ n).run P w = .ok (((List.range n).map u).toArray) w:=by
 have:=zH (P:=P) (w:=w) b off u n 0 #[] (by simpa using h)
 simpa [loadCells] using this
def pc {id b:Nat} {cs:List ae} (hr:Rel j M w) (hM:M[id]?=some (.cells cs)) (hj:j id=some b):∃vs t,w.heap[b]?=some (.cells vs t (0,0))/\cs.length=vs.size /\
  (∀(q:Nat) (c:ae) (v:Value),cs[q]?=some c->vs[q]?=some v->cm j M w c v)/\∀q,w.cell? ⟨b,q,none⟩=vs[q]?:=by
 obtain ⟨b',vs,t,h1,h2,h3,h4⟩:=hr.box id cs hM
 rw [hj] at h1; injection h1 with h1; subst h1
 exact ⟨vs,t,h2,h3,h4,fun q=>by simp [World.cell?,h2]⟩
def Aw (hr:Rel j M w) {id ver i off sz:Nat} {xs:List ae} {v:Value} {el:ae} (hM:M[id]?=some (.arr sz ver xs)) (h:cm j M w (.dC id ver i off) v) (hel:xs[i]?=some el) :
  ∃b,v = .pointer (some ⟨b,i*sz+off,none⟩)/\∀(k:Nat) (c:ae),el.cells[off+k]?=some c->∃u,w.cell? ⟨b,i*sz+off+k,none⟩=some u/\bX w (gv j M w) c u:=by
 obtain ⟨_,_,_,g⟩:=h.kG
 obtain ⟨g1,b,g2,g3⟩:=(g sz ver xs hM).2 rfl
 obtain ⟨b',vs,t,k1,k2,k3,k4,k5⟩:=hr.rL hM g2
 rw [g2] at k1; injection k1 with k1; subst k1
 refine ⟨b,g3,fun k c hc=>?_⟩
 obtain ⟨u,l1,l2⟩:=k5 i el (off+k) c hel hc
 exact ⟨u,by simp [World.cell?,k2,Nat.add_assoc,l1],l2⟩
def NN (hr:Rel j M w) (he:aU j M w env a) {y:Operand} {z:cM} {t:TypeId} (hop:o.op = .load t y) (hg:rJ P t=some false) (hz:bG y=some z) (h:bD C env M (.iL z)=some x) :
  ∃v w',ja P o a w v w'/\db j M w x v w':=by
 simp only [bD] at h
 have h1:=aX he hz
 split at h
 ·rename_i id off e
  rw [e] at h1
  obtain ⟨b,_,_,hj,hv⟩:=h1.iG
  rw [bW] at h
  split at h
  ·rename_i cs hM
   obtain ⟨c,hc,h⟩:=av h
   injection h with h; subst h
   rw [bW] at hc
   obtain ⟨vs,t0,hw,hl,hcs,hcell⟩:=pc hr hM hj
   have hlt:=ak hc
   have hu:vs[off]?=some (vs[off]'(by omega)):=Array.getElem?_eq_getElem (by omega)
   refine ⟨_,w,.inl ?_,.still hr (hcs _ c _ hc hu)⟩
   simp [execOp,hop,Instr.loadAt,Instr.sureAddr,hv,loadVar,eR hg,hcell,hu]
  ·cases h
 ·rename_i cs e
  rw [e] at h1
  obtain ⟨b,off,vs,hv,hc⟩:=h1.mf
  obtain ⟨c,hc0,h⟩:=av h
  injection h with h; subst h
  rw [bW] at hc0
  obtain ⟨h2,_,h3⟩:=hc 0 c hc0
  simp only [Nat.add_zero] at h2
  refine ⟨_,w,.inl ?_,.still hr (.plain h3)⟩
  simp [execOp,hop,Instr.loadAt,Instr.sureAddr,hv,loadVar,eR hg,h2]
 ·rename_i id ver i off e
  rw [e] at h1
  rw [bW] at h
  split at h
  ·rename_i sz v0 xs hM
   split at h
   ·rename_i hv0
    subst hv0
    obtain ⟨el,hel,h⟩:=av h
    obtain ⟨c,hc,h⟩:=av h
    injection h with h; subst h
    rw [bW] at hc
    obtain ⟨b,hv,hcell⟩:=Aw hr hM h1 hel
    obtain ⟨u,l1,l2⟩:=hcell 0 c (by simpa using hc)
    simp only [Nat.add_zero] at l1
    refine ⟨u,w,.inl ?_,.still hr (.plain l2)⟩
    simp [execOp,hop,Instr.loadAt,Instr.sureAddr,hv,loadVar,eR hg,l1]
   ·cases h
  ·cases h
 ·cases h
def NP (hr:Rel j M w) (he:aU j M w env a) {y:Operand} {z:cM} {t:TypeId} {n:Nat} (hop:o.op = .load t y) (hg:rJ P t=some true) (hn:iP P t=some n) (hz:bG y=some z)
  (h:bD C env M (.kK n z)=some x):∃v w',ja P o a w v w'/\db j M w x v w':=by
 simp only [bD] at h
 have h1:=aX he hz
 split at h
 ·rename_i id off e
  rw [e] at h1
  obtain ⟨b,_,_,hj,hv⟩:=h1.iG
  rw [bW] at h
  split at h
  ·rename_i cs hM
   split at h
   ·rename_i hle
    injection h with h; subst h
    obtain ⟨vs,t0,hw,hl,hcs,hcell⟩:=pc hr hM hj
    have hrun:=iV (P:=P) (w:=w) b off n (fun k=>(vs[off+k]?).getD undef) fun k hk=>by
     rw [hcell,Array.getElem?_eq_getElem (by omega)]; simp
    refine ⟨_,w,.inl (by simp [execOp,hop,Instr.loadAt,Instr.sureAddr,hv,loadVar,eR hg,dA hn,hrun]; rfl),.still hr (.agg (by simp; omega) fun p c u hc hu=>?_)⟩
    have hp:p<n:=by have:=ak hc; simp at this; omega
    rw [List.getElem?_take_of_lt hp,List.getElem?_drop] at hc
    have hu':u=(vs[off+p]?).getD undef:=by simp [hp] at hu; exact hu.symm
    have hs:vs[off+p]?=some (vs[off+p]'(by omega)):=Array.getElem?_eq_getElem (by omega)
    rw [hs] at hu'
    subst hu'
    exact hcs _ c _ hc hs
   ·cases h
  ·cases h
 ·rename_i cs e
  split at h
  ·rename_i hle
   injection h with h; subst h
   rw [e] at h1
   obtain ⟨b,off,vs,hv,hc⟩:=h1.mf
   have hrun:=iV (P:=P) (w:=w) b off n vs fun k hk=>(hc k _ (List.getElem?_eq_getElem (by omega))).1
   refine ⟨_,w,.inl (by simp [execOp,hop,Instr.loadAt,Instr.sureAddr,hv,loadVar,eR hg,dA hn,hrun]; rfl),.still hr (.agg (by simp; omega) fun p c u hc' hu=>?_)⟩
   have hp:p<n:=by have:=ak hc'; simp at this; omega
   rw [List.getElem?_take_of_lt hp] at hc'
   have hu':u=vs p:=by simp [hp] at hu; exact hu.symm
   subst hu'
   exact .plain (hc p c hc').2.2
  ·cases h
 ·rename_i id ver i off e
  rw [e] at h1
  rw [bW] at h
  split at h
  ·rename_i sz v0 xs hM
   split at h
   ·rename_i hv0
    subst hv0
    obtain ⟨el,hel,h⟩:=av h
    split at h
    ·rename_i hle
     injection h with h; subst h
     obtain ⟨b,hv,hcell⟩:=Aw hr hM h1 hel
     have hrun:=iV (P:=P) (w:=w) b (i*sz+off) n (fun k=>(w.cell? ⟨b,i*sz+off+k,none⟩).getD undef) fun k hk=>by
      obtain ⟨u,l1,_⟩:=hcell k _ (List.getElem?_eq_getElem (by omega))
      rw [l1]; rfl
     refine ⟨_,w,.inl (by simp [execOp,hop,Instr.loadAt,Instr.sureAddr,hv,loadVar,eR hg,dA hn,hrun]; rfl),.still hr (.agg (by simp; omega) fun p c u hc' hu=>?_)⟩
     have hp:p<n:=by have:=ak hc'; simp at this; omega
     rw [List.getElem?_take_of_lt hp,List.getElem?_drop] at hc'
     obtain ⟨u',l1,l2⟩:=hcell p c hc'
     have hu':u=(w.cell? ⟨b,i*sz+off+p,none⟩).getD undef:=by simp [hp] at hu; exact hu.symm
     rw [l1] at hu'
     subst hu'
     exact .plain l2
    ·cases h
   ·cases h
  ·cases h
 ·cases h
end
section
variable {P:Program} {C:cu} {o:Oper} {env:Env} {M:ai} {j:J} {w:World} {a:Act} {x:ae×ai}
def nu {y:ae} {v:Value} {cs:List ae} (h:cm j M w y v) (hc:y.cells?=some cs):RC j M w cs v.cells:=by
 cases y<;>simp only [ae.cells?,Option.some.injEq,reduceCtorEq] at hc
 case agg cs' =>
  subst hc
  obtain ⟨vs,rfl,h1,h2⟩:=h.fA
  exact ⟨h1,h2⟩
 case raw u =>
  cases h with
  |plain h =>
   cases h with
   |raw _ h1 =>
    cases v<;>simp at hc<;>subst hc <;>
     exact ⟨rfl,fun i c v hc hv=>by
      cases i with
      |zero=>simp [Value.cells] at hc hv; subst hc; subst hv; exact .plain (.raw _ h1)
      |succ i=>simp at hc⟩
 all_goals
  subst hc
  have hv:v.cells = #[v]:=by
   first
    |(have:=h.dH; subst this; rfl)
    |(have:=h.cg; subst this; rfl)
    |(have:=h.dS; subst this; rfl)
    |(obtain ⟨A,cap,b,off,sz,vs,e,_⟩:=h.bA.bA; subst e; rfl)
    |(obtain ⟨b,_,_,_,e⟩:=h.iG; subst e; rfl)
    |(obtain ⟨b,off,vs,e,_⟩:=h.mf; subst e; rfl)
    |(obtain ⟨vs,e,_⟩:=h.kI; subst e; rfl)
    |(obtain ⟨b,_,_,e⟩:=h.nM; subst e; rfl)
    |(obtain ⟨b,_,_,e⟩:=h.wA; subst e; rfl)
    |(obtain ⟨b,es,cl,e,_⟩:=h.A7; subst e; rfl)
    |(obtain ⟨_,_,e⟩:=h.rK; subst e; rfl)
    |(obtain ⟨⟨_,_,e⟩,_⟩:=h.kG; subst e; rfl)
    |(obtain ⟨_,e,_⟩:=h.zI; subst e; rfl)
    |(obtain ⟨_,_,_,_,e|e⟩:=h.xR<;>(subst e; rfl))
    |(obtain ⟨_,_,_,h3,_⟩:=h.wO; cases h3; rfl)
    |(obtain ⟨_,_,_,e⟩:=h.Br; subst e; rfl)
  rw [hv]
  exact ⟨rfl,fun i c u hc hu=>by
   cases i with
   |zero=>simp at hc hu; subst hc; subst hu; exact h
   |succ i=>simp at hc⟩
def vU {c:ae} {v:Value} (h:cm j M w c v) (hc:c.cZ=true):v.oneCell'=true:=by
 cases c<;>simp only [ae.cZ,reduceCtorEq,Bool.false_eq_true] at hc
 case bool=>have:=h.dH; subst this; rfl
 case int=>have:=h.cg; subst this; rfl
 case str=>have:=h.dS; subst this; rfl
 case slice=>obtain ⟨A,cap,b,off,sz,vs,e,_⟩:=h.bA.bA; subst e; rfl
 case ptr=>obtain ⟨b,_,_,_,e⟩:=h.iG; subst e; rfl
 case dM=>obtain ⟨b,off,vs,e,_⟩:=h.mf; subst e; rfl
 case func=>obtain ⟨vs,e,_⟩:=h.kI; subst e; rfl
 case df=>obtain ⟨b,_,_,e⟩:=h.nM; subst e; rfl
 case dW=>obtain ⟨b,_,_,e⟩:=h.wA; subst e; rfl
 case eb=>obtain ⟨b,es,cl,e,_⟩:=h.A7; subst e; rfl
 case bu=>obtain ⟨_,_,e⟩:=h.rK; subst e; rfl
 case dC=>obtain ⟨⟨_,_,e⟩,_⟩:=h.kG; subst e; rfl
 case jx=>obtain ⟨_,e,_⟩:=h.zI; subst e; rfl
 case cv=>obtain ⟨_,_,_,_,e|e⟩:=h.xR<;>(subst e; rfl)
 case du=>obtain ⟨_,_,_,h3,_⟩:=h.wO; cases h3; rfl
 case dJ=>obtain ⟨_,_,_,e⟩:=h.Br; subst e; rfl
 case raw u =>
  cases h with
  |plain h=>cases h with|raw _ h1=>exact h1
def zK (hr:Rel j M w) {cs:List ae} {vs:Array Value} (hc:RC j M w cs vs) (t:TypeId) :
  db j M w (.ptr M.length 0,M++[.cells cs]) (.pointer (some ⟨w.heap.size,0,none⟩)) { w with heap:=w.heap.push (.cells vs t (0,0)) }:=by
 have q:Quiet w { w with heap:=w.heap.push (.cells vs t (0,0)) }:=⟨by simp,rfl,rfl,rfl⟩
 have hb:∀b,b<w.heap.size->({ w with heap:=w.heap.push (.cells vs t (0,0)) }:World).heap[b]?=w.heap[b]?:=fun b hb=>by
  show (w.heap.push _)[b]?=_
  rw [Array.getElem?_push,if_neg (by omega)]
 have hn:({ w with heap:=w.heap.push (.cells vs t (0,0)) }:World).heap[w.heap.size]?=some (.cells vs t (0,0)):=by simp
 refine ⟨cH j M.length (some w.heap.size),hr.push (fun b h=>?_) q hb (fun _=>?_) (fun sz n b h=>by cases h),Ext.push (fun b h=>?_) q hb,.ptr (by simp) ⟨cs,by simp⟩ (by simp [cH])⟩
 ·injection h with h; subst h; simp
 ·exact ⟨_,rfl,fun j' M' hx=>⟨vs,t,hn,hc.1,fun i c v h1 h2=>(hc.2 i c v h1 h2).mono hx⟩⟩
 ·injection h with h; omega
def NC (hr:Rel j M w) (he:aU j M w env a) {y:Operand} {z:cM} {t:TypeId} (hop:o.op = .box t y) (hz:bG y=some z) (h:bD C env M (.box z)=some x) :
  ∃v w',ja P o a w v w'/\db j M w x v w':=by
 simp only [bD] at h
 obtain ⟨cs,hc,h⟩:=av h
 injection h with h; subst h
 exact ⟨_,_,.inl (by simp [execOp,hop,Instr.box,newVar,newRow]),zK hr (nu (aX he hz) hc) t⟩
def E1 (hr:Rel j M w) {t:TypeId} {i:TypeInfo} {zv:Value} {l:List ae} (hop:o.op = .alloc t) (hi:P.info? t=some i) (hzv:i.zero=some zv) (hl:kB zv.cells.toList=some l)
  (h:bD C env M (.vi l)=some x):∃v w',ja P o a w v w'/\db j M w x v w':=by
 simp only [bD] at h
 injection h with h; subst h
 obtain ⟨h1,h2⟩:=im (j:=j) (M:=M) (w:=w) hl
 refine ⟨_,_,.inl (by simp [execOp,hop,Instr.alloc,zeroValue,gZ hi,hzv,newVar,newRow]; rfl),zK hr ⟨by simpa using h1,fun i c v hc hv=>h2 i c v hc (by simpa using hv)⟩ t⟩
def X3 (hr:Rel j M w) (he:aU j M w env a) {y:Operand} {n:Nat} (hop:o.op = .assign y) (hz:bG y=some (.pf (.slice .c0 []))) (h:bD C env M (.own n (.pf (.slice .c0 [])))=some x) :
  ∃v w',ja P o a w v w'/\db j M w x v w':=by
 simp only [bD,cM.ev] at h
 injection h with h; subst h
 have h1:=aX he hz
 have q:Quiet w w:=⟨Nat.le_refl _,rfl,rfl,rfl⟩
 obtain ⟨A,hA⟩:∃A,a.eval y = .slice A 0 0:=by
  simp only [cM.ev] at h1
  generalize a.eval y=v at h1
  cases h1 with
  |plain h=>cases h
  |c0 A=>exact ⟨A,rfl⟩
 refine ⟨a.eval y,w,.inl (by simp [execOp,hop]),cH j M.length none,hr.push (ob:=none) (fun b h=>by cases h) q (fun _ _=>rfl) (fun h=>by cases h) (fun sz n b h h'=>by cases h'),Ext.push (fun b h=>by cases h) q (fun _ _=>rfl),?_⟩
 rw [hA]
 exact .own (sz:=n) (n:=0) (by simp) (by simp) (bX.nil _ _ _) fun _ => .inl ⟨by simp [cH],rfl,A,rfl⟩
def ib (w:World) (b:Nat):Nat->List Value->World
 |_,[]=>w
 |off,v::r=>ib (w.setCell ⟨b,off,none⟩ v) b (off+1) r
def fK {b:Nat} {t:TypeId}:∀(l:List Value) (w:World) (off:Nat) (vs:Array Value),w.heap[b]?=some (.cells vs t (0,0))->off+l.length<=vs.size ->
  (ib w b off l).heap.size=w.heap.size/\(ib w b off l).os=w.os/\(ib w b off l).tape=w.tape/\(ib w b off l).output=w.output /\
  (∀b',b'≠b->(ib w b off l).heap[b']?=w.heap[b']?) /\
  ∃vs',(ib w b off l).heap[b]?=some (.cells vs' t (0,0))/\vs'.size=vs.size/\(∀p,p<off\/off+l.length<=p->vs'[p]?=vs[p]?)/\∀p,p<l.length->vs'[off+p]?=l[p]?:=by
 intro l
 induction l with
 |nil=>intro w off vs h _; exact ⟨rfl,rfl,rfl,rfl,fun _ _=>rfl,vs,h,rfl,fun _ _=>rfl,fun p hp=>by simp at hp⟩
 |cons v r ih =>
  intro w off vs h hle
  simp only [List.length_cons] at hle
  have hs:(w.setCell ⟨b,off,none⟩ v).heap[b]?=some (.cells (vs.setIfInBounds off v) t (0,0)):=by
   simp [World.setCell,Array.getElem?_modify,h]
  obtain ⟨h1,h2,h3,h4,h5,vs',h6,h7,h8,h9⟩:=ih (w.setCell ⟨b,off,none⟩ v) (off+1) (vs.setIfInBounds off v) hs (by simp; omega)
  refine ⟨by simp only [ib]; rw [h1]; simp [World.setCell],by simp only [ib]; rw [h2]; rfl,by simp only [ib]; rw [h3]; rfl,by simp only [ib]; rw [h4]; rfl,fun b' hb'=>?_,vs',h6,by rw [h7]; simp,fun p hp=>?_,fun p hp=>?_⟩
  ·simp only [ib]
   rw [h5 b' hb']
   simp [World.setCell,Array.getElem?_modify,Ne.symm hb']
  ·simp only [List.length_cons] at hp
   rw [h8 p (by omega),Array.getElem?_setIfInBounds_ne (by omega)]
  ·cases p with
   |zero =>
    have:vs'[off]?=(vs.setIfInBounds off v)[off]?:=h8 off (by omega)
    rw [Nat.add_zero,this]
    simp [Array.getElem?_setIfInBounds_self]
    omega
   |succ p =>
    have:=h9 p (by simpa using hp)
    rw [show off+(p+1)=off+1+p by omega,this]
    simp
def gn {b:Nat} {t:TypeId}:∀(l:List Value) (w:World) (off i:Nat) (vs:Array Value),w.heap[b]?=some (.cells vs t (0,0))->off+i+l.length<=vs.size->(∀v,v∈l->v.oneCell'=true) ->
  (storeCells ⟨b,off,none⟩ l i).run P w = .ok () (ib w b (off+i) l):=by
 intro l
 induction l with
 |nil=>intro w off i vs _ _ _; simp [storeCells,ib]
 |cons v r ih =>
  intro w off i vs h hle hv
  simp only [List.length_cons] at hle
  have hs:(w.setCell ⟨b,off+i,none⟩ v).heap[b]?=some (.cells (vs.setIfInBounds (off+i) v) t (0,0)):=by
   simp [World.setCell,Array.getElem?_modify,h]
  have hc:w.cell? ⟨b,off+i,none⟩=some (vs[off+i]'(by omega)):=by
   simp [World.cell?,h]
  have hf:w.frozen? ⟨b,off+i,none⟩=false:=by simp [World.frozen?,h]
  have hi:=ih (w.setCell ⟨b,off+i,none⟩ v) off (i+1) (vs.setIfInBounds (off+i) v) hs (by simp; omega) (fun u hu=>hv u (List.mem_cons_of_mem _ hu))
  simp only [storeCells,Sem.run_bind,fM,run_store P w _ v .plain (hv v (by simp)),hc,hf,Bool.false_eq_true,if_false,Result.andThen_ok,hi,ib]
  congr 2
def ju {cs new:List ae} {off:Nat} (h:off+new.length<=cs.length) (p:Nat) :
  (gj cs off new)[p]?=if off<=p/\p<off+new.length then new[p-off]? else cs[p]?:=by
 unfold gj
 have hl:(cs.take off).length=off:=by simp; omega
 by_cases h1:p<off
 ·rw [List.getElem?_append_left (by omega),List.getElem?_take_of_lt h1,if_neg (by omega)]
 ·rw [List.getElem?_append_right (by omega),hl]
  by_cases h2:p<off+new.length
  ·rw [List.getElem?_append_left (by omega),if_pos ⟨by omega,h2⟩]
  ·rw [List.getElem?_append_right (by omega),List.getElem?_drop,if_neg (by omega)]
   congr 1
   omega
def mR {cs new:List ae} {off:Nat} (h:off+new.length<=cs.length):(gj cs off new).length=cs.length:=by
 unfold gj; simp; omega
def sN {c:ae} {v:Value} (h:cm j M w c v) (hp:c.shut.plainCell=true):bX w (gv j M w) c.shut v:=by
 cases c<;>simp only [ae.shut,ae.plainCell,Bool.false_eq_true] at hp ⊢
 case bool=>have:=h.dH; subst this; exact .bool _
 case int=>have:=h.cg; subst this; exact .int _ _
 case str=>have:=h.dS; subst this; exact .str _
 case slice=>exact h.bA
 case raw=>cases h with|plain h=>exact h
def u9 {c:ae} (h:c.shut.plainCell=true):c.cZ=true:=by
 cases c<;>simp only [ae.shut,ae.plainCell,Bool.false_eq_true] at h<;>try rfl
 rename_i v
 cases v<;>first|rfl|(simp at h)
def zQ {c:ae} (h:c.plainCell=true):c.cells=[c]:=by
 cases c<;>first|rfl|cases h
def w5 {e:ae} {off:Nat} {new:List ae} (h:off+new.length<=e.cells.length) (hp:new.all ae.plainCell=true):(putCells e off new).cells=gj e.cells off new:=by
 by_cases hag:∃cs,e = .agg cs
 ·obtain ⟨cs,rfl⟩:=hag
  cases new<;>rfl
 ·have h1:e.cells=[e]:=by cases e<;>first|rfl|exact absurd ⟨_,rfl⟩ hag
  rw [h1] at h ⊢
  match new,h,hp with
  | [],h,_ =>
   have:putCells e off []=e:=by cases e<;>first|rfl|exact absurd ⟨_,rfl⟩ hag
   rw [this,h1]
   simp only [List.length_nil,List.length_cons] at h
   match off,h with
   |0,_=>rfl
   |1,_=>rfl
  | [c],h,hp =>
   have:putCells e off [c]=c:=by cases e<;>first|rfl|exact absurd ⟨_,rfl⟩ hag
   have h0:off=0:=by simp at h; omega
   subst h0
   rw [this,zQ (by simpa using hp)]
   rfl
  |_::_::_,h,_=>simp at h; omega
def wR (hr:Rel j M w) (he:aU j M w env a) {y y':Operand} {z z':cM} {t:TypeId} {n:Nat} (hop:o.op = .store t y y') (hn:iP P t=some n) (hz:bG y=some z) (hz':bG y'=some z')
  (h:bD C env M (.store n z z')=some x):∃v w',ja P o a w v w'/\db j M w x v w':=by
 simp only [bD] at h
 have h1:=aX he hz
 have h2:=aX he hz'
 split at h
 ·rename_i id off e
  rw [e] at h1
  obtain ⟨b,_,_,hj,hv⟩:=h1.iG
  rw [bW] at h
  split at h
  ·rename_i cs hM
   obtain ⟨new,ec,h⟩:=av h
   split at h
   ·rename_i hcond
    obtain ⟨c1,c2,c3⟩:=hcond
    injection h with h; subst h
    obtain ⟨vs,t0,hw,hl,hcs,hcell⟩:=pc hr hM hj
    obtain ⟨n1,n2⟩:=nu h2 ec
    have hone:∀v,v∈(a.eval y').cells.toList->v.oneCell'=true:=by
     intro v hv
     obtain ⟨p,hp,rfl⟩:=List.getElem_of_mem hv
     have hp':p<(a.eval y').cells.size:=by simpa using hp
     have hpl:p<new.length:=by omega
     have hr':=n2 p _ _ (List.getElem?_eq_getElem hpl) (Array.getElem?_eq_getElem hp')
     have:=vU hr' (List.all_eq_true.1 c3 _ (List.getElem_mem hpl))
     simpa using this
    have hrun:=gn (P:=P) (a.eval y').cells.toList w off 0 vs hw (by simp; omega) hone
    obtain ⟨s1,s2,s3,s4,s5,vs',s6,s7,s8,s9⟩:=fK (a.eval y').cells.toList w off vs hw (by simp; omega)
    have q:Quiet w (ib w b off (a.eval y').cells.toList):=⟨by omega,s2,s3,s4⟩
    have hle:off+new.length<=cs.length:=by omega
    rw [cF]
    refine ⟨undef,ib w b off (a.eval y').cells.toList,.inr ⟨?_,rfl⟩,j,Rel.store hM rfl rfl hj hr q (fun b' hb' _=>s5 b' hb') (fun vs0 t1 fr h=>by rw [hw] at h; injection h with h; injection h with h1 h2 h3; subst h1; subst h2; exact ⟨_,_,s6,s7⟩) (fun j' M' hx=>⟨vs',t0,s6,by rw [mR hle]; omega,fun p c v hc hv'=>cm.mono hx ?_⟩),Ext.store hM rfl rfl hj hr q (fun b' hb' _=>s5 b' hb') (fun vs0 t1 fr h=>by rw [hw] at h; injection h with h; injection h with h1 h2 h3; subst h1; subst h2; exact ⟨_,_,s6,s7⟩),.any _⟩
    ·simp only [Nat.add_zero] at hrun
     simp [execOp,hop,Instr.storeAt,Instr.sureAddr,hv,storeVar,dA hn,show (a.eval y').cells.size=n by omega,hrun]
    ·rw [ju hle] at hc
     split at hc
     ·rename_i hp
      have h9:=s9 (p-off) (by simp; omega)
      rw [show off+(p-off)=p by omega,hv'] at h9
      exact n2 (p-off) c v hc (by simpa using h9.symm)
     ·rename_i hp
      have h8:=s8 p (by simp; omega)
      rw [hv'] at h8
      exact hcs p c v hc h8.symm
   ·cases h
  ·cases h
 ·rename_i id ver i off e
  rw [e] at h1
  rw [bW] at h
  split at h
  ·rename_i sz v0 xs hM
   obtain ⟨new,ec,h⟩:=av h
   obtain ⟨el,hel,h⟩:=av h
   split at h
   ·rename_i hcond
    obtain ⟨hv0,c1,c2,c3⟩:=hcond
    subst hv0
    injection h with h; subst h
    obtain ⟨_,hid,_,hv⟩:=h1.kG
    obtain ⟨hi,b,hj,hv⟩:=(hv sz v0 xs hM).2 rfl
    obtain ⟨b',vs,t0,k1,hw,k3,k4,k5⟩:=hr.rL hM hj
    rw [hj] at k1; injection k1 with k1; subst k1
    have hsz:el.cells.length=sz:=k4 el (List.mem_of_getElem? hel)
    have hbd:i*sz+sz<=vs.size:=by
     refine Nat.le_trans ?_ k3
     calc i*sz+sz=(i+1)*sz:=by rw [Nat.add_mul]; omega
      _<=xs.length*sz:=Nat.mul_le_mul_right _ hi
    obtain ⟨n1,n2⟩:=nu h2 ec
    have hpl:∀(p:Nat) (c:ae),new[p]?=some c->c.shut.plainCell=true:=fun p c hc=>by
     rw [List.all_map,List.all_eq_true] at c3
     exact c3 c (List.mem_of_getElem? hc)
    have hone:∀v,v∈(a.eval y').cells.toList->v.oneCell'=true:=by
     intro v hv
     obtain ⟨p,hp,rfl⟩:=List.getElem_of_mem hv
     have hp':p<(a.eval y').cells.size:=by simpa using hp
     have hpl':p<new.length:=by omega
     have hr':=n2 p _ _ (List.getElem?_eq_getElem hpl') (Array.getElem?_eq_getElem hp')
     have:=vU hr' (u9 (hpl p _ (List.getElem?_eq_getElem hpl')))
     simpa using this
    have hrun:=gn (P:=P) (a.eval y').cells.toList w (i*sz+off) 0 vs hw (by simp; omega) hone
    obtain ⟨s1,s2,s3,s4,s5,vs',s6,s7,s8,s9⟩:=fK (a.eval y').cells.toList w (i*sz+off) vs hw (by simp; omega)
    have q:Quiet w (ib w b (i*sz+off) (a.eval y').cells.toList):=⟨by omega,s2,s3,s4⟩
    have hle:off+(new.map ae.shut).length<=el.cells.length:=by simp; omega
    have hput:=w5 hle c3
    have hw':∀vs0 t1,w.heap[b]?=some (.cells vs0 t1 (0,0))->∃vs1,(ib w b (i*sz+off) (a.eval y').cells.toList).heap[b]?=some (.cells vs1 t1 (0,0))/\vs1.size=vs0.size:=fun vs0 t1 h=>by
     rw [hw] at h; injection h with h; injection h with e1 e2
     subst e1; subst e2
     exact ⟨vs',s6,s7⟩
    rw [cF,cF]
    refine ⟨undef,ib w b (i*sz+off) (a.eval y').cells.toList,.inr ⟨?_,rfl⟩,j,Rel.xN hM hj hr q (fun b' hb' _=>s5 b' hb') hw' (Nat.le_refl _) (fun _=>by simp) (fun j' M' hx=>⟨vs',t0,s6,by simp; omega,fun x hx'=>?_,fun p x k c hp hk=>?_⟩),Ext.xN hM hj hr q (fun b' hb' _=>s5 b' hb') hw' (Nat.le_refl _) (fun _=>by simp),.any _⟩
    ·simp only [Nat.add_zero] at hrun
     simp [execOp,hop,Instr.storeAt,Instr.sureAddr,hv,storeVar,dA hn,show (a.eval y').cells.size=n by omega,hrun]
    ·rcases List.mem_or_eq_of_mem_set hx' with hx'|rfl
     ·exact k4 x hx'
     ·rw [hput,mR hle,hsz]
    ·have hlen:(a.eval y').cells.toList.length=n:=by simp; omega
     by_cases hpi:i=p
     ·subst hpi
      rw [List.getElem?_set_self hi] at hp
      injection hp with hp; subst hp
      rw [hput,ju hle] at hk
      split at hk
      ·rename_i hin
       simp only [List.length_map] at hin
       rw [List.getElem?_map,Option.map_eq_some_iff] at hk
       obtain ⟨c0,hc0,rfl⟩:=hk
       have h9:=s9 (k-off) (by omega)
       rw [show i*sz+off+(k-off)=i*sz+k by omega] at h9
       have hlt:k-off<(a.eval y').cells.size:=by omega
       have hu:(a.eval y').cells[k-off]?=some (a.eval y').cells[k-off]:=Array.getElem?_eq_getElem hlt
       exact ⟨_,by rw [h9]; simp,(sN (n2 _ c0 _ hc0 hu) (hpl _ c0 hc0)).mono hx.cW⟩
      ·rename_i hin
       simp only [List.length_map] at hin
       obtain ⟨u,u1,u2⟩:=k5 i el k c hel hk
       exact ⟨u,by rw [s8 _ (by omega)]; exact u1,u2.mono hx.cW⟩
     ·rw [List.getElem?_set_ne hpi] at hp
      obtain ⟨u,u1,u2⟩:=k5 p x k c hp hk
      have hk':k<sz:=by rw [<-k4 x (List.mem_of_getElem? hp)]; exact ak hk
      refine ⟨u,(s8 _ ?_).trans u1,u2.mono hx.cW⟩
      rcases Nat.lt_or_ge p i with hlt|hge
      ·left
       have:=Nat.mul_le_mul_right sz (show p+1<=i from hlt)
       rw [Nat.add_mul] at this
       omega
      ·right
       have:=Nat.mul_le_mul_right sz (show i+1<=p by omega)
       rw [Nat.add_mul] at this
       omega
   ·cases h
  ·cases h
 ·cases h
end
end
end Go.Abs
