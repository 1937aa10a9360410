import Derived.Calls
import Derived.Laws.Sem
import Derived.Below
import Derived.Test.YtahkjijkflobhaaGreatDoorProg
import Derived.Test.YtahkjijkflobhaaGreatDoorCards
import Derived.ChangeSame
import Derived.ChangeVars
import Derived.JoinedOf
import Derived.RowKit
import Derived.RowKitTokens
import Derived.LaidLaws
import Derived.LaidHandle
import Derived.Stop.Joined
import Derived.Lib.LaidU8
import Derived.Deep.DeepHandedRow
import Derived.Deep.DeepWitnessRowRef
import Derived.ProofKit
import Derived.SizedLaws
import Derived.Carry
import Derived.OpenShut
import Derived.Deep.Slices
import Derived.Deep.Fields
import Derived.ChangeOld
import Derived.Shelf.Vars
import Derived.Lib.LaidIn
import Derived.KernelRfl
import Derived.Laws.Strings
set_option linter.unusedSimpArgs false
set_option linter.unusedVariables false
set_option linter.unusedSectionVars false
set_option linter.defProp false
namespace Go.Abs
section
open Go
inductive Tk where
 |sh|c0|own (k:Nat)
 deriving DecidableEq,Repr
inductive ae where
 |bool (b:Bool)
 |int (k:IntKind) (n:Int)
 |str (s:List UInt8)
 |slice (tk:Tk) (xs:List ae)
 |agg (cs:List ae)
 |tuple (vs:List ae)
 |ptr (id off:Nat)
 |cW (cs:List ae)
 |func (f:Nat) (caps:List ae)
 |cz (id:Nat)
 |dp (id:Nat)
 |du (ks vs:List ae)
 |aZ (id ver sz lo hi:Nat)
 |cV (id ver i off:Nat)
 |iA (f:Nat) (fs:List ae)
 |bI (id t:Nat)
 |cA (k t:Nat) (x:Bool) (l:List UInt8)
 |dI (t id off:Nat)
 |raw (v:Value)
 |fK (v:Value)
 |any
 deriving Inhabited
def ae.di:ae->Bool
 | .fK _=>true
 | .bool _ | .int .. | .str _ | .slice .. | .agg _ | .tuple _ | .ptr .. | .cW _ | .func .. | .cz _ | .dp _ | .du .. | .aZ .. | .cV .. | .iA .. | .bI .. | .cA .. | .dI .. | .raw _ | .any=>false
inductive aK where
 |cells (cs:List ae)
 |tick (sz n:Nat)
 |map (ks vs:List ae)
 |fB (s:List UInt8) (pos:Nat)
 |arr (sz ver:Nat) (xs:List ae)
 |mO
def aK.tag:aK->Nat
 | .cells _=>0
 | .tick sz _=>sz+3
 | .map _ _=>1
 | .fB _ _=>2
 | .arr sz _ _=>sz+3
 | .mO=>3
def aK.fixed:aK->Bool
 | .tick _ _ | .arr _ _ _ | .mO=>false
 |_=>true
def aK.loose:aK->Bool
 | .tick _ _ | .arr _ _ _=>true
 |_=>false
abbrev ag:=List aK
abbrev Env:=List (Nat×ae)
def aF {α β:Type} (x:Option α) (f:α->Option β):Option β:=match x with
 |some a=>f a
 |none=>none
@[congr] theorem PO {α β:Type} {x x':Option α} {f:α->Option β} (h:x=x'):aF x f=aF x' f:=by rw [h]
@[simp] theorem aE {α β:Type} (a:α) (f:α->Option β):aF (some a) f=f a:=rfl
@[simp] theorem SR {α β:Type} (f:α->Option β):aF none f=none:=rfl
def pE {α:Type} (b:Bool) (x y:Option α):Option α:=match b with
 |true=>x
 |false=>y
@[congr] theorem T6 {α:Type} {b b':Bool} {x y:Option α} (h:b=b'):pE b x y=pE b' x y:=by rw [h]
@[simp] theorem jc {α:Type} (x y:Option α):pE true x y=x:=rfl
@[simp] theorem gV {α:Type} (x y:Option α):pE false x y=y:=rfl
@[simp] theorem Fz {α β:Type} (b:Bool) (x y:Option α) (f:α->Option β):aF (pE b x y) f=pE b (aF x f) (aF y f):=by cases b<;>rfl
open Classical in
noncomputable def aV {α:Type} (p:Prop) (x:Option α):Option α:=if p then x else none
@[congr] theorem PS {α:Type} {p p':Prop} {x:Option α} (h:p=p'):aV p x=aV p' x:=by rw [h]
def aM {α:Type} {p:Prop} {x:Option α} (h:p):aV p x=x:=if_pos h
@[simp] theorem CO {α:Type} (x:Option α):aV True x=x:=if_pos trivial
@[simp] theorem tL {α:Type} (x:Option α):aV False x=none:=if_neg not_false
@[simp] theorem PQ {α β:Type} (p:Prop) (x:Option α) (f:α->Option β):aF (aV p x) f=aV p (aF x f):=by
 unfold aV; split<;>rfl
def cL:Env->Nat->ae
 | [],_ => .any
 |(k,v)::e,t=>if k=t then v else cL e t
def ae.cells:ae->List ae
 | .agg cs=>cs
 |x=>[x]
def ae.c8:ae->Bool
 | .agg _ | .tuple _ | .any | .fK _=>false
 | .raw v=>match v with | .agg _ | .tuple _=>false|_=>true
 |_=>true
def ae.cells?:ae->Option (List ae)
 | .agg cs=>some cs
 | .tuple _ | .any | .fK _=>none
 | .raw (.agg _)=>none
 |x=>some [x]
def ae.shut:ae->ae
 | .slice _ xs => .slice .sh xs
 |x=>x
def ae.bS:ae->ae
 | .slice _ xs => .slice .sh xs
 | .agg cs => .agg (cs.map ae.shut)
 |x=>x
def ae.plainCell:ae->Bool
 | .bool _ | .int .. | .str _=>true
 | .slice .sh _=>true
 | .raw v=>match v with | .pointer none | .nilFunc | .nilIface | .map none | .func _ ⟨[]⟩ ⟨[]⟩=>true|_=>false
 |_=>false
def ae.plain:ae->Bool
 | .agg cs=>cs.all ae.plainCell
 |x=>x.plainCell
def ae.da (base:Nat) (M:ag):ae->ae
 | .slice (.own k) xs=>if k<base then .slice (.own k) xs else .slice .sh xs
 | .ptr id off=>if id<base then .ptr id off else .any
 | .cz id=>if id<base then .cz id else .any
 | .dp id=>if id<base then .dp id else .any
 | .aZ id ver sz lo hi=>if id<base then .aZ id ver sz lo hi else match M[id]? with
  |some (.arr _ v xs)=>if v=ver then .slice .sh ((xs.take hi).drop lo) else .any
  |_ => .any
 | .cV id ver i off=>if id<base then .cV id ver i off else .any
 | .bI id t=>if id<base then .bI id t else .any
 | .dI t id off=>if id<base then .dI t id off else .any
 | .cA k t x l=>if k<base then .cA k t x l else .any
 | .func _ _ | .agg _ | .tuple _ => .any
 |x=>x
def ae.ew (base:Nat) (M:ag):ae->ae
 | .func f caps => .func f (caps.map (ae.da base M))
 |x=>x.da base M
def ae.eb (base:Nat) (M:ag):ae->ae
 | .agg cs => .agg (cs.map (ae.ew base M))
 |x=>x.ew base M
def ae.fM (base:Nat) (M:ag):ae->ae
 | .tuple vs => .tuple (vs.map (ae.eb base M))
 |x=>x.eb base M
def aK.back (base:Nat) (M:ag):aK->aK
 | .cells cs => .cells (cs.map (ae.ew base M))
 | .tick sz n => .tick sz n
 | .map ks vs => .map ks (vs.map (ae.eb base M))
 | .fB s p => .fB s p
 | .arr sz v xs => .arr sz v xs
 | .mO => .mO
def eW (base:Nat) (M:ag):ag:=(M.take base).map (aK.back base M)
def qy (base:Nat) (M:ag) (env:Env):Env:=env.map fun x=>(x.1,x.2.fM base M)
def ae.dA (base:Nat) (M:ag):ae->ae
 | .slice _ xs => .slice .sh xs
 | .cz id=>if id<base then .cz id else match M[id]? with
  |some (.map ks vs)=>if vs.all ae.plain&&ks.all ae.plainCell then .du ks vs else .any
  |_ => .any
 |x=>x.ew base M
def ae.dK (base:Nat) (M:ag):ae->ae
 | .agg cs => .agg (cs.map (ae.dA base M))
 |x=>x.dA base M
def ae.eX (base:Nat) (M:ag):ae->ae
 | .tuple vs => .tuple (vs.map (ae.dK base M))
 |x=>x.dK base M
def ae.cm:ae->List Nat
 | .ptr id _ | .cz id | .dp id | .aZ id _ _ _ _ | .cV id _ _ _=>[id]
 | .slice (.own k) _=>[k]
 | .bI id _=>[id]
 | .dI _ id _=>[id]
 | .cA k _ _ _=>[k]
 |_=>[]
def ae.fz:ae->List Nat
 | .func _ caps=>caps.flatMap ae.cm
 |x=>x.cm
def ae.ids:ae->List Nat
 | .agg cs=>cs.flatMap ae.fz
 |x=>x.fz
def ae.wR:ae->Bool
 | .func _ _ | .agg _ | .tuple _=>false
 |_=>true
def ae.nu:ae->Bool
 | .func _ caps=>caps.all ae.wR
 | .agg _ | .tuple _=>false
 |_=>true
def ae.flat:ae->Bool
 | .agg cs=>cs.all ae.nu
 |x=>x.nu
def aK.flat:aK->Bool
 | .mO=>false
 | .cells cs=>cs.all ae.nu
 | .map _ vs=>vs.all ae.flat
 |_=>true
def ae.jV (ρ:Nat->Nat):ae->ae
 | .ptr id off => .ptr (ρ id) off
 | .cz id => .cz (ρ id)
 | .dp id => .dp (ρ id)
 | .aZ id v sz lo hi => .aZ (ρ id) v sz lo hi
 | .cV id v i off => .cV (ρ id) v i off
 | .slice (.own k) xs => .slice (.own (ρ k)) xs
 | .bI id t => .bI (ρ id) t
 | .dI t id off => .dI t (ρ id) off
 | .cA k t x l => .cA (ρ k) t x l
 |x=>x
def ae.km (ρ:Nat->Nat):ae->ae
 | .func f caps => .func f (caps.map (ae.jV ρ))
 |x=>x.jV ρ
def ae.ik (ρ:Nat->Nat):ae->ae
 | .agg cs => .agg (cs.map (ae.km ρ))
 |x=>x.km ρ
def ae.ui (ρ:Nat->Nat):ae->ae
 | .tuple vs => .tuple (vs.map (ae.ik ρ))
 |x=>x.ik ρ
def ae.pB:ae->Bool
 | .tuple vs=>vs.all ae.flat
 |x=>x.flat
def aK.ik (ρ:Nat->Nat):aK->aK
 | .cells cs => .cells (cs.map (ae.km ρ))
 | .map ks vs => .map ks (vs.map (ae.ik ρ))
 |b=>b
def aK.ids:aK->List Nat
 | .cells cs=>cs.flatMap ae.fz
 | .map _ vs=>vs.flatMap ae.ids
 |_=>[]
def nth {α:Type}:List α->Nat->Option α
 | [],_=>none
 |a::_,0=>some a
 |_::l,n+1=>nth l n
def cS {α:Type}:List α->Nat->α->List α
 | [],_,_=>[]
 |_::l,0,x=>x::l
 |a::l,n+1,x=>a::cS l n x
def dU:List Nat->List Nat->List Nat
 |a,[]=>a
 |a,x::r=>dU (if a.contains x then a else a++[x]) r
def iE (M:ag):List Nat->List Nat
 | []=>[]
 |i::r=>(match nth M i with|some b=>b.ids|none=>[])++iE M r
def ep (M:ag) (acc:List Nat):List Nat:=dU acc (iE M acc)
def reach (M:ag) (l:List Nat):List Nat:=ep M (ep M (ep M (dU [] l)))
def cM:List Nat->Nat->Nat
 | [],_=>0
 |a::l,x=>if a=x then 0 else cM l x+1
def pn (ids:List Nat) (i:Nat):Nat:=(nth ids i).getD 0
def dv (M:ag) (ρ:Nat->Nat):List Nat->Option ag
 | []=>some []
 |i::r=>match nth M i with
  |some b=>if b.flat then aF (dv M ρ r) fun l=>some (b.ik ρ::l) else none
  |none=>none
def eJ (ids:List Nat) (M:ag):List Nat->ag->ag
 |i::r,b::l=>eJ ids (cS M i (b.ik (pn ids))) r l
 |_,_=>M
def ae.gr (M:ag):ae->ae
 | .aZ id ver sz lo hi=>match nth M id with
  |some (.arr _ v xs)=>if v=ver then .slice .sh ((xs.take hi).drop lo) else .any
  |_ => .any
 |x=>x
def ae.mY (M:ag):ae->ae
 | .agg cs => .agg (cs.map (ae.gr M))
 |x=>x.gr M
def kh (M:ag):List Nat->ag
 | []=>M
 |i::r=>match nth M i with
  |some (.arr sz _ xs)=>kh (cS M i (.tick sz xs.length)) r
  |_=>kh M r
inductive cj where
 |tmp (t:Nat)
 |dX (v:ae)
def cj.ev (env:Env):cj->ae
 | .tmp t=>cL env t
 | .dX v=>v
inductive Ef where
 |add|sub|mul|quo|rem|eql|neq|lss|leq|gtr|geq|shl|shr|and|or|xor
 deriving DecidableEq,Repr
inductive FK where
 |i|s|b
 deriving DecidableEq
inductive dS where
 |mv (x:cj)
 |own (sz:Nat) (x:cj)
 |pick (c a b:cj)
 |ib (cs:List ae)
 |box (x:cj)
 |build (zero:List ae) (parts:List (Nat×Nat×cj))
 |lits (sz:Nat) (parts:List cj)
 |vt (sz:Nat) (parts:List cj)
 |eG (n:Nat) (x:cj)
 |cB (x:cj)
 |store (n:Nat) (a x:cj)
 |sW (sz p n:Nat) (a x:cj)
 |MH (x:cj)
 |bin (op:Ef) (x y:cj)
 |MS (ks:List FK) (neg:Bool) (x y:cj)
 |QY (neg:Bool) (x y:cj)
 |not (x:cj)
 |neg (x:cj)
 |conv (k:IntKind) (x:cj)
 |same (x:cj)
 |fn (f:Nat) (caps:List cj)
 |uN (f:Nat) (firsts:List cj)
 |oB (x:cj) (lo hi:Option cj)
 |qh (sz:Nat) (x:cj) (lo hi mx:Option cj)
 |cX (off:Nat) (x:cj)
 |se (off n:Nat) (x:cj)
 |sd (off:Nat) (x:cj)
 |mq (sz:Nat) (x i:cj)
 |nW (n sz:Nat) (x i:cj)
 |nY (n:Nat) (x i:cj)
 |nZ (x i:cj)
 |extract (x:cj) (i:Nat)
 |call (f:Nat) (args:List cj)
 |nr (f:cj) (args:List cj)
 |tn (f:Nat) (args:List cj)
 |eh (f:Nat) (args:List cj)
 |nq (f:Nat) (args:List cj)
 |rZ (sz:Nat) (zero:List ae) (x:cj)
 |Fm (x:cj)
 |vr (x:cj)
 |append (sz bytes:Nat) (x y:cj)
 |lr (e:Nat) (x y:cj)
 |kc (e:Nat) (x y:cj)
 |T7 (x:cj)
 |BK (t e:Nat) (cs:List ae)
 |BL (t e:Nat) (x:cj)
 |qe (mx:Bool) (x y:cj)
 |T1 (x:cj)
 |mkMap
 |look (fk:FK) (zero:ae) (ok:Bool) (m k:cj)
 |bX (fk:FK) (m k v:cj)
 |Fl (m:cj)
 |FY (x:cj)
 |xz (it:cj)
 |iface (t:Nat) (x:cj)
 |raise (x:cj)
 |SO (zero:List ae) (n:cj)
 |Fw (zero:List ae) (n:cj)
 |oO (sz bytes:Nat) (zero:List ae) (x n:cj)
 |wL (sz:Nat) (x y:cj)
 |Ey (sz:Nat)
structure aR where
 dst:Option Nat
 op:dS
 guard:Option (Nat×Bool)
 grow:Bool:=false
 nz:Bool:=false
 sep:List Nat:=[]
 stop:Bool:=true
def ob (d:Nat) (o:dS):aR:=⟨some d,o,none,false,false,[],true⟩
def og (d g:Nat) (b:Bool) (o:dS):aR:=⟨some d,o,some (g,b),false,false,[],true⟩
def ox (o:dS):aR:=⟨none,o,none,false,false,[],true⟩
def dS.GI:dS->Bool
 | .call .. | .nr .. | .tn .. | .eh .. | .raise _=>true
 |_=>false
inductive aO where
 |skip
 |region (ops:List aR) (draw:Bool) (live:List Nat)
 |seq (a b:aO)
 |cond (c:cj) (x y:aO)
 |block (id:Nat) (c:aO)
 |loop (live:List Nat) (c:aO)
 |exit (id:Nat)
 |ret
inductive O9 where
 |normal|exit (id:Nat)|ret|fK (v:Value)
abbrev bt:=Nat->List ae->ag->Option (ae×ag)
def strLt:List UInt8->List UInt8->Bool
 |_,[]=>false
 | [],_::_=>true
 |a::x,b::y=>a<b||(a==b&&strLt x y)
def ack (k:IntKind) (a b:Int):Int:=k.wrap (BitVec.ofInt k.bits a &&& BitVec.ofInt k.bits b).toNat
def ior (k:IntKind) (a b:Int):Int:=k.wrap (BitVec.ofInt k.bits a ||| BitVec.ofInt k.bits b).toNat
def acr (k:IntKind) (a b:Int):Int:=k.wrap (BitVec.ofInt k.bits a ^^^ BitVec.ofInt k.bits b).toNat
def jk (b:UInt8):ae := .int .u8 b.toNat
def iq (op:Ef):ae->ae->Option ae
 | .int k a,.int k' b =>
  match op with
  | .shl=>if 0<=b then some (.int k (k.wrap (a*2 ^ (min b.toNat k.bits)))) else none
  | .shr=>if 0<=b then some (.int k (a.fdiv (2 ^ (min b.toNat k.bits)))) else none
  |op=>if k≠k' then none else
   match op with
   | .add=>some (.int k (k.wrap (a+b)))
   | .sub=>some (.int k (k.wrap (a-b)))
   | .mul=>some (.int k (k.wrap (a*b)))
   | .quo=>if b=0 then none else some (.int k (k.wrap (a.tdiv b)))
   | .rem=>if b=0 then none else some (.int k (a.tmod b))
   | .eql=>some (.bool (a==b))
   | .neq=>some (.bool (a != b))
   | .lss=>some (.bool (a<b))
   | .leq=>some (.bool (a<=b))
   | .gtr=>some (.bool (a>b))
   | .geq=>some (.bool (a>=b))
   | .and=>some (.int k (ack k a b))
   | .or=>some (.int k (ior k a b))
   | .xor=>some (.int k (acr k a b))
   |_=>none
 | .str a,.str b =>
  match op with
  | .add=>if ((a.length+b.length:Nat):Int)>IntKind.i64.max then none else some (.str (a++b))
  | .eql=>some (.bool (a==b))
  | .neq=>some (.bool (a != b))
  | .lss=>some (.bool (strLt a b))
  | .leq=>some (.bool (strLt a b||a==b))
  | .gtr=>some (.bool (!(strLt a b||a==b)))
  | .geq=>some (.bool (!(strLt a b)))
  |_=>none
 |_,_=>none
def fq:FK->ae->ae->Option Bool
 | .i,.int k a,.int k' b=>if k=k' then some (a==b) else none
 | .s,.str a,.str b=>some (a==b)
 | .b,.bool a,.bool b=>some (a==b)
 |_,_,_=>none
def fm:List FK->List ae->List ae->Option Bool
 | [],[],[]=>some true
 |k::ks,a::x,b::y=>aF (fq k a b) fun e=>aF (fm ks x y) fun f=>some (e&&f)
 |_,_,_=>none
def ae.norm:ae->ae
 | .agg [c]=>c
 |x=>x
def valOf:ae->Option Value
 | .int k n=>some (.int k n)
 | .agg [.int k n]=>some (.agg #[.int k n])
 |_=>none
def bytesOf:List ae->Option (List UInt8)
 | []=>some []
 | .int .u8 n::r=>aF (bytesOf r) fun l=>some (UInt8.ofNat n.toNat::l)
 |_=>none
def p9 (fk:FK) (k:ae):List ae->List ae->Option (Option ae)
 | [],[]=>some none
 |k'::ks,v::vs=>aF (fq fk k k') fun b=>pE b (some (some v)) (p9 fk k ks vs)
 |_,_=>none
def om (fk:FK) (k v:ae):List ae->List ae->Option (List ae×List ae)
 | [],[]=>aF (fq fk k k) fun _=>some ([k],[v])
 |k'::ks,v'::vs=>aF (fq fk k k') fun b=>pE b (some (k::ks,v::vs)) (aF (om fk k v ks vs) fun x=>some (k'::x.1,v'::x.2))
 |_,_=>none
def ja (zero:ae) (ok:Bool) (r:Option ae):ae:=match ok with
 |true => .tuple [r.getD zero,.bool r.isSome]
 |false=>r.getD zero
def mapOf (M:ag):ae->Option (List ae×List ae)
 | .cz id=>match nth M id with|some (.map ks vs)=>some (ks,vs)|_=>none
 | .du ks vs=>some (ks,vs)
 |_=>none
def fD (cs:List ae) (off:Nat) (new:List ae):List ae:=cs.take off++(new++cs.drop (off+new.length))
def putCells (e:ae) (off:Nat) (new:List ae):ae:=match e,new with
 | .agg cs,new => .agg (fD cs off new)
 |_,[c]=>c
 |e,_=>e
def eP (env:Env):List ae->List (Nat×Nat×cj)->Option (List ae)
 |cs,[]=>some cs
 |cs,(off,n,x)::r =>
  aF (x.ev env).cells? fun new=>if new.length=n/\off+n<=cs.length then eP env (fD cs off new) r else none
def j8 (env:Env) (sz:Nat):List cj->Option (List ae)
 | []=>some []
 |x::r=>if (x.ev env).bS.plain=true/\(x.ev env).bS.cells.length=sz then aF (j8 env sz r) fun l=>some ((x.ev env).bS::l) else none
def bO (env:Env) (n:Nat):Option cj->Option Int
 |none=>some n
 |some x=>match x.ev env with | .int _ i=>some i|_=>none
def wid (xs:List ae) (sz:Nat):Prop:=∀x,x∈xs->x.cells.length=sz
def bB (n bytes:Nat):Prop:=n*bytes<=2 ^ 44
noncomputable def ak (call:bt) (f:Nat) (vs:List ae) (M:ag):Option (ae×ag) :=
 if vs.all ae.flat then
  aF (dv M (cM (reach M (vs.flatMap ae.ids))) (reach M (vs.flatMap ae.ids))) fun B =>
   if ep M (reach M (vs.flatMap ae.ids))=reach M (vs.flatMap ae.ids) then
    aF (call f (vs.map (ae.ik (cM (reach M (vs.flatMap ae.ids))))) B) fun x =>
     if x.2.length=B.length/\x.1.pB=true/\x.2.all aK.flat=true then some (x.1.ui (pn (reach M (vs.flatMap ae.ids))),eJ (reach M (vs.flatMap ae.ids)) M (reach M (vs.flatMap ae.ids)) x.2) else none
   else none
 else none
noncomputable def sP (call:bt) (f:Nat) (vs:List ae) (M:ag):Option (ae×ag) :=
 if vs.all ae.flat=true/\vs.flatMap ae.ids=[] then
  aF (call f vs []) fun x=>match x.1,x.2 with
   | .slice (.own 0) xs,[.tick sz n]=>some (.slice (.own M.length) xs,M++[.tick sz n])
   |_,_=>none
 else none
noncomputable def bd (call:bt) (env:Env) (M:ag):dS->Option (ae×ag)
 | .mv x=>some (x.ev env,M)
 | .own sz x =>
  match x.ev env with
  | .slice .c0 []=>some (.slice (.own M.length) [],M++[.tick sz 0])
  |_=>none
 | .pick c a b=>match c.ev env with
  | .bool t=>pE t (some (a.ev env,M)) (some (b.ev env,M))
  |_=>none
 | .ib cs=>some (.ptr M.length 0,M++[.cells cs])
 | .box x=>aF (x.ev env).cells? fun cs=>some (.ptr M.length 0,M++[.cells cs])
 | .build zero parts=>aF (eP env zero parts) fun cs=>some (.agg cs,M)
 | .lits sz parts=>aF (j8 env sz parts) fun l=>some (match l with|[] => .slice .c0 []|_ => .slice .sh l,M)
 | .vt sz parts=>aF (j8 env sz parts) fun l=>some (.slice (.own M.length) l,M++[.tick sz l.length])
 | .eG n x =>
  match x.ev env with
  | .ptr id off=>match nth M id with
   |some (.cells cs)=>if off+n<=cs.length then some (.agg ((cs.drop off).take n),M) else none
   |_=>none
  | .cW cs=>if n<=cs.length then some (.agg (cs.take n),M) else none
  | .cV id ver i off=>match nth M id with
   |some (.arr _ v xs)=>if v=ver then aF (xs[i]?) fun e=>if off+n<=e.cells.length then some (.agg ((e.cells.drop off).take n),M) else none else none
   |_=>none
  |_=>none
 | .cB x =>
  match x.ev env with
  | .ptr id off=>match nth M id with
   |some (.cells cs)=>aF (nth cs off) fun c=>some (c,M)
   |_=>none
  | .cW cs=>aF (nth cs 0) fun c=>some (c,M)
  | .cV id ver i off=>match nth M id with
   |some (.arr _ v xs)=>if v=ver then aF (xs[i]?) fun e=>aF (nth e.cells off) fun c=>some (c,M) else none
   |_=>none
  |_=>none
 | .store n a x =>
  match a.ev env with
  | .ptr id off=>match nth M id with
   |some (.cells cs)=>aF (x.ev env).cells? fun new =>
    if new.length=n/\off+n<=cs.length/\new.all ae.c8=true then some (.any,cS M id (.cells (fD cs off new))) else none
   |_=>none
  | .cV id ver i off=>match nth M id with
   |some (.arr sz v xs)=>aF (x.ev env).cells? fun new=>aF (xs[i]?) fun e =>
    if v=ver/\new.length=n/\off+n<=e.cells.length/\(new.map ae.shut).all ae.plainCell=true then some (.any,cS M id (.arr sz ver (cS xs i (putCells e off (new.map ae.shut))))) else none
   |_=>none
  |_=>none
 | .sW sz p n a x =>
  match a.ev env with
  | .ptr id off=>match nth M id with
   |some (.cells cs)=>aF (x.ev env).cells? fun new =>
    match nth new p with
    |some (.slice .c0 [])=>if new.length=n/\off+n<=cs.length/\new.all ae.c8=true then some (.any,cS M id (.cells (fD cs off (cS new p (.slice (.own M.length) []))))++[.tick sz 0]) else none
    |_=>none
   |_=>none
  |_=>none
 | .MH x=>match x.ev env with
  | .ptr id off=>some (.ptr id off,M)
  | .cW cs=>some (.cW cs,M)
  | .func f caps=>some (.func f caps,M)
  | .cV id v i off=>some (.cV id v i off,M)
  |_=>none
 | .bin op x y=>aF (iq op (x.ev env) (y.ev env)) fun v=>some (v,M)
 | .MS ks neg x y =>
  match x.ev env,y.ev env with
  | .agg a,.agg b=>aF (fm ks a b) fun e=>some (.bool (match neg with|true => !e|false=>e),M)
  |_,_=>none
 | .QY neg x y=>match x.ev env,y.ev env with
  | .bool a,.bool b=>some (.bool (match neg with|true => !(a==b)|false=>a==b),M)
  |_,_=>none
 | .not x=>match x.ev env with | .bool b=>some (.bool (!b),M)|_=>none
 | .neg x=>match x.ev env with | .int k n=>some (.int k (k.wrap (0-n)),M)|_=>none
 | .conv k x=>match x.ev env with | .int _ n=>some (.int k (k.wrap n),M)|_=>none
 | .same x=>match x.ev env with | .str s=>some (.str s,M)|_=>none
 | .fn f caps=>some (.func f (caps.map (cj.ev env)),M)
 | .uN f firsts=>if (firsts.map fun x=>(x.ev env).bS).all ae.plain then some (.iA f (firsts.map fun x=>(x.ev env).bS),M) else none
 | .oB x lo hi =>
  match x.ev env with
  | .str s=>aF (bO env s.length hi) fun h=>aF (bO env 0 lo) fun l =>
   aV (0<=h/\h<=s.length/\0<=l/\l<=h) (some (.str ((s.take h.toNat).drop l.toNat),M))
  |_=>none
 | .qh sz x lo hi mx =>
  match x.ev env with
  | .slice _ xs=>aV (wid xs sz) <| aF (bO env xs.length hi) fun h=>aF (bO env 0 lo) fun l =>
   match mx with
   |none=>aV (0<=h/\h<=xs.length/\0<=l/\l<=h) (some (.slice .sh ((xs.take h.toNat).drop l.toNat),M))
   |some m=>match m.ev env with
    | .int _ m=>aV (0<=m/\m<=xs.length/\0<=h/\h<=m/\0<=l/\l<=h)
      (pE (m==0) (some (.slice .c0 [],M)) (some (.slice .sh ((xs.take h.toNat).drop l.toNat),M)))
    |_=>none
  | .aZ id v sz' al ah=>aV (sz'=sz) <| aF (bO env (ah-al) hi) fun h=>aF (bO env 0 lo) fun l =>
   match mx with
   |none=>aV (0<=h/\h<=(ah-al:Nat)/\0<=l/\l<=h) (pE (l==h) (some (.slice .sh [],M)) (some (.aZ id v sz (al+l.toNat) (al+h.toNat),M)))
   |some m=>match m.ev env with
    | .int _ m=>aV (0<=m/\m<=(ah-al:Nat)/\0<=h/\h<=m/\0<=l/\l<=h)
      (pE (m==0) (some (.slice .c0 [],M)) (pE (l==h) (some (.slice .sh [],M)) (some (.aZ id v sz (al+l.toNat) (al+h.toNat),M))))
    |_=>none
  |_=>none
 | .cX off x=>match x.ev env with
  | .ptr id o=>some (.ptr id (o+off),M)
  | .cW cs=>some (.cW (cs.drop off),M)
  | .cV id v i o=>some (.cV id v i (o+off),M)
  |_=>none
 | .se off n x=>match x.ev env with
  | .agg cs=>if off+n<=cs.length then some (.agg ((cs.drop off).take n),M) else none
  |_=>none
 | .sd off x=>match x.ev env with
  | .agg cs=>aF (nth cs off) fun c=>some (c,M)
  |_=>none
 | .mq sz x i =>
  match x.ev env,i.ev env with
  | .slice _ xs,.int _ n=>aV (0<=n) (aF (xs[n.toNat]?) fun e=>if e.cells.length=sz then some (.cW e.cells,M) else none)
  | .aZ id v sz' lo hi,.int _ n=>aV (0<=n/\n<(hi-lo:Nat)/\sz'=sz) (some (.cV id v (lo+n.toNat) 0,M))
  |_,_=>none
 | .nW n sz x i =>
  match x.ev env,i.ev env with
  | .cW cs,.int _ m=>aV (0<=m/\m<n/\n*sz<=cs.length) (some (.cW (cs.drop (m.toNat*sz)),M))
  | .ptr id off,.int _ m=>aV (0<=m/\m<n) (some (.ptr id (off+m.toNat*sz),M))
  |_,_=>none
 | .nY n x i =>
  match x.ev env,i.ev env with
  | .agg cs,.int _ m=>aV (0<=m/\m<n) (aF (cs[m.toNat]?) fun c=>some (c,M))
  |_,_=>none
 | .nZ x i =>
  match x.ev env,i.ev env with
  | .str s,.int _ n=>aV (0<=n) (aF (s[n.toNat]?) fun b=>some (.int .u8 b.toNat,M))
  |_,_=>none
 | .extract x i=>match x.ev env with | .tuple vs=>aF (nth vs i) fun v=>some (v,M)|_=>none
 | .call f args=>ak call f (args.map fun x=>(x.ev env).bS) M
 | .tn f args=>call f (args.map (cj.ev env)) M
 | .eh f args=>ak call f (args.map fun x=>((x.ev env).mY M).bS) (kh M ((args.map (cj.ev env)).flatMap ae.ids))
 | .nq f args=>sP call f (args.map fun x=>(x.ev env).bS) M
 | .rZ sz zero x=>match x.ev env with
  | .slice _ xs=>match xs with|[]=>some (.any,M)|_=>none
  | .aZ id ver sz' lo hi=>match nth M id with
   |some (.arr sz0 v xs)=>if v=ver/\sz'=sz/\zero.length=sz/\zero.all ae.plainCell=true then some (.any,cS M id (.arr sz0 ver (xs.take lo++(List.replicate (hi-lo) (.agg zero)++xs.drop hi)))) else none
   |_=>none
  |_=>none
 | .nr f args=>match f.ev env with
  | .func g caps=>ak call g ((args.map fun x=>(x.ev env).bS)++caps) M
  | .iA g fs=>ak call g (fs++args.map fun x=>(x.ev env).bS) M
  | .raw v=>match v with
   | .func (.func g) ⟨[]⟩ ⟨[]⟩=>ak call g (args.map fun x=>(x.ev env).bS) M
   |_=>none
  |_=>none
 | .Fm x=>match x.ev env with | .str s=>some (.int .i64 s.length,M)|_=>none
 | .vr x=>match x.ev env with
  | .slice _ xs=>some (.int .i64 xs.length,M)
  | .aZ _ _ _ lo hi=>some (.int .i64 (hi-lo:Nat),M)
  |_=>none
 | .append sz bytes x y =>
  match x.ev env,y.ev env with
  | .slice tk xs,.slice _ ys =>
   aV (bB (xs.length+ys.length) bytes/\wid xs sz/\wid ys sz) (
    match tk with
    | .c0=>match xs with|[]=>some (.slice (.own M.length) ys,M++[.tick sz ys.length])|_=>none
    | .own k=>match nth M k with
     |some (.tick sz' n)=>aV (sz'=sz/\n=xs.length) (some (.slice (.own k) (xs++ys),cS M k (.tick sz (xs.length+ys.length))))
     |_=>none
    | .sh=>none)
  | .aZ id ver sz' lo hi,.slice _ ys=>match nth M id with
   |some (.arr sz0 v xs)=>aV (v=ver/\sz'=sz/\lo=0/\hi=xs.length/\bB (xs.length+ys.length) bytes/\wid xs sz/\wid ys sz/\0<ys.length)
     (some (.aZ id (ver+1) sz 0 (xs.length+ys.length),cS M id (.arr sz0 (ver+1) (xs++ys))))
   |_=>none
  |_,_=>none
 | .lr e y z =>
  match y.ev env,z.ev env with
  | .cA k t x l,.str s=>match nth M k with
   |some (.tick sz n)=>aV (sz=1/\t=e/\n=l.length/\bB (l.length+s.length) 1) (some (.cA k t x (l++s),cS M k (.tick 1 (l.length+s.length))))
   |_=>none
  |_,_=>none
 | .kc e y z =>
  match y.ev env,z.ev env with
  | .cA k t x l,.slice _ ys=>aF (bytesOf ys) fun s=>aV (ys=s.map jk) (match nth M k with
   |some (.tick sz n)=>aV (sz=1/\t=e/\n=l.length/\bB (l.length+s.length) 1) (some (.cA k t x (l++s),cS M k (.tick 1 (l.length+s.length))))
   |_=>none)
  |_,_=>none
 | .T7 x=>match x.ev env with | .str l=>some (.slice .sh (l.map jk),M)|_=>none
 | .BL t e x=>match x.ev env with
  | .agg cs=>match cs with
   | .raw (.pointer none) :: .slice .c0 []::rest=>some (.ptr (M.length+1) 0,M++[.tick 1 0,.cells (.bI (M.length+1) t :: .cA M.length e false []::rest)])
   |_=>none
  |_=>none
 | .BK t e cs=>match cs with
  | .raw (.pointer none) :: .slice .c0 []::rest=>some (.ptr (M.length+1) 0,M++[.tick 1 0,.cells (.bI (M.length+1) t :: .cA M.length e true []::rest)])
  |_=>none
 | .qe mx x y=>match x.ev env,y.ev env with
  | .int k a,.int _ b=>some (.int k (match mx with|true=>if b>a then b else a|false=>if b<a then b else a),M)
  |_,_=>none
 | .T1 x=>match x.ev env with | .slice _ xs=>aF (bytesOf xs) fun l=>some (.str l,M)|_=>none
 | .mkMap=>some (.cz M.length,M++[.map [] []])
 | .look fk zero ok m k=>aF (mapOf M (m.ev env)) fun e=>aF (p9 fk (k.ev env) e.1 e.2) fun r=>some (ja zero ok r,M)
 | .bX fk m k v=>match m.ev env with
  | .cz id=>match nth M id with
   |some (.map ks vs)=>aF (om fk (k.ev env) (v.ev env) ks vs) fun e=>some (.any,cS M id (.map e.1 e.2))
   |_=>none
  |_=>none
 | .Fl m=>aF (mapOf M (m.ev env)) fun e=>some (.int .i64 e.1.length,M)
 | .FY x=>match x.ev env with | .str s=>some (.dp M.length,M++[.fB s 0])|_=>none
 | .xz it=>match it.ev env with
  | .dp id=>match nth M id with
   |some (.fB s pos)=>pE (decide (pos<s.length))
     (some (.tuple [.bool true,.int .i64 pos,.int .i32 (Utf8.decode ⟨s.toArray⟩ pos).1],cS M id (.fB s (pos+(Utf8.decode ⟨s.toArray⟩ pos).2))))
     (some (.tuple [.bool false],M))
   |_=>none
  |_=>none
 | .SO zero n=>match n.ev env with
  | .int _ k=>aV (0<=k/\bB k.toNat (8*zero.length)/\zero.all ae.plainCell=true) (some (.slice .sh (List.replicate k.toNat (ae.agg zero).norm),M))
  |_=>none
 | .Fw zero n=>match n.ev env with
  | .int _ k=>aV (0<=k/\bB k.toNat (8*zero.length)/\zero.all ae.plainCell=true) (some (.aZ M.length 0 zero.length 0 k.toNat,M++[.arr zero.length 0 (List.replicate k.toNat (ae.agg zero).norm)]))
  |_=>none
 | .oO sz bytes zero x n =>
  match x.ev env,n.ev env with
  | .slice .c0 [],.int _ k=>aV (0<=k/\bB k.toNat bytes/\zero.length=sz/\zero.all ae.plainCell=true)
    (pE (k==0) (some (.slice .c0 [],M)) (some (.aZ M.length 0 sz 0 k.toNat,M++[.arr sz 0 (List.replicate k.toNat (ae.agg zero).norm)])))
  | .aZ id ver sz' lo hi,.int _ k=>match nth M id with
   |some (.arr sz0 v xs)=>aV (v=ver/\sz'=sz/\lo=0/\hi=xs.length/\0<=k/\bB (xs.length+k.toNat) bytes/\zero.length=sz/\zero.all ae.plainCell=true/\0<xs.length)
     (pE (k==0) (some (.aZ id ver sz' lo hi,M)) (some (.aZ id (ver+1) sz 0 (xs.length+k.toNat),cS M id (.arr sz0 (ver+1) (xs++List.replicate k.toNat (ae.agg zero).norm)))))
   |_=>none
  |_,_=>none
 | .wL sz x y =>
  match x.ev env,y.ev env with
  | .slice .sh [],.slice _ ys=>aV (wid ys sz) (some (.int .i64 0,M))
  | .aZ id ver sz' lo hi,.slice _ ys=>match nth M id with
   |some (.arr sz0 v xs)=>aV (v=ver/\sz'=sz/\wid ys sz/\0<xs.length)
     (some (.int .i64 (min ys.length (hi-lo):Nat),cS M id (.arr sz0 ver (xs.take lo++(ys.take (min ys.length (hi-lo))++xs.drop (lo+min ys.length (hi-lo)))))))
   |_=>none
  |_,_=>none
 | .Ey sz=>some (.ptr (M.length+1) 0,M++[.arr sz 0 [],.cells [.aZ M.length 0 sz 0 0]])
 | .iface t x=>match x.ev env with
  | .ptr id off=>some (.dI t id off,M)
  |y=>aF (valOf y) fun v=>some (.raw (.iface t v),M)
 | .raise x=>match x.ev env with
  | .raw v=>match v with
   | .iface t u=>some (.fK (.iface t u),M)
   |_=>none
  |_=>none
def hV (env:Env) (dst:Option Nat) (v:ae):Env :=
 match dst with
 |some d=>(d,v)::env
 |none=>env
def dS.bh (env:Env):dS->List Nat
 | .call _ args=>(args.map fun x=>(x.ev env).bS).flatMap ae.ids
 | .nr f args=>match f.ev env with
  | .func _ caps=>((args.map fun x=>(x.ev env).bS)++caps).flatMap ae.ids
  | .iA _ fs=>(fs++args.map fun x=>(x.ev env).bS).flatMap ae.ids
  | .raw v=>match v with
   | .func (.func _) ⟨[]⟩ ⟨[]⟩=>(args.map fun x=>(x.ev env).bS).flatMap ae.ids
   |_=>[]
  |_=>[]
 |_=>[]
def oA (env:Env) (M M':ag):List Nat->Prop
 | []=>True
 |z::r=>(match cL env z with
  | .ptr id _=>nth M' id=nth M id
  |_=>False)/\oA env M M' r
noncomputable def fV (call:bt) (o:aR) (env:Env) (M:ag):Option (ae×ag) :=
 match o.nz with
 |true=>aV (o.op.bh env=[]) (bd call env M o.op)
 |false=>match o.grow with
  |false=>bd call env M o.op
  |true=>aF (bd call env M o.op) fun x=>aV (M <+: x.2\/(o.sep≠[]/\oA env M x.2 o.sep)) (some x)
structure Out where
 e:O9
 env:Env
 mem:ag
def tP (c:Bool) (x:ae×ag) (k:Option Out):Option Out:=match x.1 with
 | .fK v=>match c with
  |true=>some ⟨.fK v,[],x.2⟩
  |false=>none
 |_=>k
def aR.lets (o:aR):Bool:=o.op.GI&&o.stop
noncomputable def bN (call:bt):List aR->Env->ag->Option Out
 | [],env,M=>some ⟨.normal,env,M⟩
 |o::r,env,M =>
  match o.guard with
  |none=>aF (fV call o env M) fun x=>tP o.lets x (bN call r (hV env o.dst x.1) x.2)
  |some (t,want)=>match cL env t with
   | .bool b=>pE (b==want) (aF (fV call o env M) fun x=>tP o.lets x (bN call r (hV env o.dst x.1) x.2))
    (bN call r (hV env o.dst (.tuple [])) M)
   | .tuple []=>bN call r (hV env o.dst (.tuple [])) M
   |_=>none
def fI (env:Env) (live:List Nat):Env:=live.map fun t=>(t,cL env t)
def Out.iM (live:List Nat) (o:Out):Out:=match o.e with
 | .normal=>⟨.normal,fI o.env live,o.mem⟩
 |_=>o
open Classical in
noncomputable def lim {α:Type} (F:Nat->Option α):Option α:=if h:∃n,(F n).isSome=true then F (Classical.choose h) else none
def lQ (o:Out) (k:Env->ag->Option Out):Option Out:=match o.e with
 | .normal=>k o.env o.mem
 |_=>some o
def nB (id:Nat) (o:Out):Out:=match o.e with
 | .exit i=>if i=id then ⟨.normal,o.env,o.mem⟩ else o
 |_=>o
def iter (f:Env->ag->Option Out) (live:List Nat):Nat->Env->ag->Option Out
 |0,_,_=>none
 |n+1,env,M=>aF (f (fI env live) M) fun o=>lQ o fun e m=>iter f live n (qy M.length m (fI e live)) (eW M.length m)
noncomputable def br (call:bt):aO->Env->ag->Option Out
 | .skip,env,M=>some ⟨.normal,env,M⟩
 | .region ops _ live,env,M=>aF (bN call ops env M) fun o=>some (o.iM live)
 | .seq a b,env,M=>aF (br call a env M) fun o=>lQ o (br call b)
 | .cond c x y,env,M=>match c.ev env with
  | .bool t=>pE t (br call x env M) (br call y env M)
  |_=>none
 | .block id c,env,M=>aF (br call c env M) fun o=>some (nB id o)
 | .loop live c,env,M=>lim fun n=>iter (br call c) live n env M
 | .exit id,env,M=>some ⟨.exit id,env,M⟩
 | .ret,env,M=>some ⟨.ret,env,M⟩
inductive lL where
 |tmp (t:Nat)
 |eE (t n:Nat)
 |Pj (t:Nat)
structure cf where
 nparams:Nat
 results:List lL
 body:aO
def vQ (env:Env) (M:ag):lL->Option ae
 | .tmp t=>some (cL env t)
 | .eE t n=>match cL env t with
  | .ptr id off=>match nth M id with
   |some (.cells cs)=>if off+n<=cs.length then some (.agg ((cs.drop off).take n)) else none
   |_=>none
  |_=>none
 | .Pj t=>match cL env t with
  | .ptr id off=>match nth M id with
   |some (.cells cs)=>nth cs off
   |_=>none
  |_=>none
def j9 (env:Env) (M:ag):List lL->Option (List ae)
 | []=>some []
 |r::rs=>aF (vQ env M r) fun v=>aF (j9 env M rs) fun l=>some (v::l)
def one:List ae->ae
 | [v]=>v
 |l => .tuple l
def fh:Nat->List ae->Env
 |_,[]=>[]
 |i,v::r=>(i,v)::fh (i+1) r
def finish (res:List lL) (base:Nat) (o:Out):Option (ae×ag) :=
 match o.e with
 | .exit _=>none
 | .fK v=>some (.fK v,eW base o.mem)
 |_=>aF (j9 o.env o.mem res) fun l=>some ((one l).eX base o.mem,eW base o.mem)
structure qm where
 code:Nat->Option cf
 fT:Nat->Option (List ae->ag->Option (ae×ag))
noncomputable def dz (T:qm):Nat->bt
 |0,f,args,M=>match T.fT f with
  |some g=>g args M
  |none=>none
 |n+1,f,args,M=>match T.fT f with
  |some g=>g args M
  |none=>match T.code f with
   |none=>none
   |some fn=>if args.length=fn.nparams then aF (br (dz T n) fn.body (fh 0 args) M) (finish fn.results M.length) else none
noncomputable def ai (T:qm):bt:=fun f args M=>lim fun n=>dz T n f args M
def gN {α:Type} {F:Nat->Option α} (hm:∀n x,F n=some x->F (n+1)=some x) {n:Nat} {x:α} (h:F n=some x):lim F=some x:=by
 have up:∀k n x,F n=some x->F (n+k)=some x:=by
  intro k
  induction k with
  |zero=>intro n x h; exact h
  |succ k ih=>intro n x h; exact hm _ _ (ih n x h)
 unfold lim
 have hex:∃n,(F n).isSome=true:=⟨n,by simp [h]⟩
 rw [dif_pos hex]
 have hc:=Classical.choose_spec hex
 generalize Classical.choose hex=m at *
 obtain ⟨y,hy⟩:=Option.isSome_iff_exists.1 hc
 rcases Nat.le_total n m with hle|hle
 ·have:=up (m-n) n x h
  rw [show n+(m-n)=m by omega] at this
  exact this
 ·have:=up (n-m) m y hy
  rw [show m+(n-m)=n by omega,h] at this
  rw [hy,this]
def na {α:Type} {F:Nat->Option α} {x:α} (h:lim F=some x):∃n,F n=some x:=by
 unfold lim at h
 split at h
 ·exact ⟨_,h⟩
 ·cases h
def mR (C C':bt):Prop:=∀f a M x,C f a M=some x->C' f a M=some x
def au {α β:Type} {x:Option α} {f:α->Option β} {y:β} (h:aF x f=some y):∃a,x=some a/\f a=some y:=by
 cases x with
 |none=>cases h
 |some a=>exact ⟨a,rfl,h⟩
def dw {α:Type} {b:Bool} {x y:Option α} {z:α} (h:pE b x y=some z):(b=true/\x=some z)\/(b=false/\y=some z):=by
 cases b
 ·exact .inr ⟨rfl,h⟩
 ·exact .inl ⟨rfl,h⟩
def aP {α:Type} {p:Prop} {x:Option α} {z:α} (h:aV p x=some z):p/\x=some z:=by
 unfold aV at h
 split at h
 ·exact ⟨by assumption,h⟩
 ·cases h
def gL {C:bt} {f:Nat} {vs:List ae} {M:ag} {x:ae×ag} (h:ak C f vs M=some x) :
  ∃a B y,C f a B=some y/\∀C':bt,C' f a B=some y->ak C' f vs M=some x:=by
 unfold ak at h
 split at h
 ·rename_i hf
  obtain ⟨B,hB,h⟩:=au h
  split at h
  ·rename_i hc
   obtain ⟨y,hy,h⟩:=au h
   refine ⟨_,B,y,hy,fun C' hC'=>?_⟩
   unfold ak
   rw [if_pos hf,hB]
   simp only [aE]
   rw [if_pos hc,hC']
   exact h
  ·cases h
 ·cases h
def Da {C:bt} {env:Env} {M:ag} {o:dS} {x:ae×ag} (h:bd C env M o=some x) :
  (∀C':bt,bd C' env M o=some x)\/∃f a B y,C f a B=some y/\∀C':bt,C' f a B=some y->bd C' env M o=some x:=by
 cases o
 case call f args =>
  simp only [bd] at h ⊢
  obtain ⟨a,B,y,h1,h2⟩:=gL h
  exact .inr ⟨f,a,B,y,h1,h2⟩
 case nq f args =>
  simp only [bd] at h ⊢
  unfold sP at h
  split at h
  ·rename_i hc
   obtain ⟨y,hy,h⟩:=au h
   refine .inr ⟨f,_,[],y,hy,fun C' hC'=>?_⟩
   unfold sP
   rw [if_pos hc,hC']
   exact h
  ·cases h
 case tn f args=>exact .inr ⟨f,_,_,_,h,fun _ h'=>h'⟩
 case eh f args =>
  simp only [bd] at h ⊢
  obtain ⟨a,B,y,h1,h2⟩:=gL h
  exact .inr ⟨f,a,B,y,h1,h2⟩
 case nr f args =>
  simp only [bd] at h ⊢
  split at h
  ·rename_i g caps hg
   obtain ⟨a,B,y,h1,h2⟩:=gL h
   exact .inr ⟨g,a,B,y,h1,h2⟩
  ·rename_i g fs hg
   obtain ⟨a,B,y,h1,h2⟩:=gL h
   exact .inr ⟨g,a,B,y,h1,h2⟩
  ·split at h
   ·obtain ⟨a,B,y,h1,h2⟩:=gL h
    exact .inr ⟨_,a,B,y,h1,h2⟩
   ·cases h
  ·cases h
 all_goals exact .inl fun _=>h
def uG {C C':bt} (hC:mR C C') {env:Env} {M:ag} {o:dS} {x:ae×ag} (h:bd C env M o=some x):bd C' env M o=some x:=by
 rcases Da h with h|⟨f,a,B,y,h1,h2⟩
 ·exact h C'
 ·exact h2 C' (hC _ _ _ _ h1)
def js {C:bt} {o:aR} {env:Env} {M:ag} {x:ae×ag} (h:fV C o env M=some x) :
  (o.nz=true/\o.op.bh env=[]/\bd C env M o.op=some x)\/(o.nz=false/\o.grow=false/\bd C env M o.op=some x)\/(o.nz=false/\o.grow=true/\(M <+: x.2\/(o.sep≠[]/\oA env M x.2 o.sep))/\bd C env M o.op=some x):=by
 unfold fV at h
 split at h
 ·obtain ⟨h1,h2⟩:=aP h
  exact .inl ⟨by assumption,h1,h2⟩
 ·split at h
  ·exact .inr (.inl ⟨by assumption,by assumption,h⟩)
  ·obtain ⟨y,hy,h⟩:=au h
   obtain ⟨h1,h2⟩:=aP h
   injection h2 with h2; subst h2
   exact .inr (.inr ⟨by assumption,by assumption,h1,hy⟩)
def uI {C C':bt} (hC:mR C C') {env:Env} {M:ag} {o:aR} {x:ae×ag} (h:fV C o env M=some x):fV C' o env M=some x:=by
 rcases js h with ⟨hn,hi,h1⟩|⟨hn,hg,h1⟩|⟨hn,hg,hp,h1⟩
 ·unfold fV; rw [hn,uG hC h1]; exact aM hi
 ·unfold fV; rw [hn,hg]; exact uG hC h1
 ·unfold fV; rw [hn,hg,uG hC h1]; exact aM hp
def yJ {c:Bool} {x:ae×ag} {k:Option Out} {o:Out} (h:tP c x k=some o):(x.1.di=false/\k=some o)\/∃v,c=true/\x.1 = .fK v/\o=⟨.fK v,[],x.2⟩:=by
 obtain ⟨x,M⟩:=x
 cases x<;>first
  |exact .inl ⟨rfl,h⟩
  |(cases c
    ·cases h
    ·injection h with h; exact .inr ⟨_,rfl,rfl,h.symm⟩)
def yK {c:Bool} {x:ae×ag} {k:Option Out} (h:x.1.di=false):tP c x k=k:=by
 obtain ⟨x,M⟩:=x
 cases x<;>first|rfl|cases h
def yL {c:Bool} {x:ae×ag} {k:Option Out} {v:Value} (hc:c=true) (h:x.1 = .fK v):tP c x k=some ⟨.fK v,[],x.2⟩:=by
 unfold tP; rw [h,hc]
def gS {C:bt} {o:aR} {r:List aR} {env:Env} {M:ag} {x:Out} (h:bN C (o::r) env M=some x) :
  (∃y,(∀t want,o.guard=some (t,want)->cL env t = .bool want)/\fV C o env M=some y/\((y.1.di=false/\bN C r (hV env o.dst y.1) y.2=some x)\/∃v,o.lets=true/\y.1 = .fK v/\x=⟨.fK v,[],y.2⟩)) \/
  (∃t want,o.guard=some (t,want)/\(cL env t = .bool (!want)\/cL env t = .tuple [])/\bN C r (hV env o.dst (.tuple [])) M=some x):=by
 unfold bN at h
 split at h
 ·rename_i hg
  obtain ⟨y,hy,h⟩:=au h
  exact .inl ⟨y,fun t want h'=>(by rw [hg] at h'; cases h'),hy,yJ h⟩
 ·rename_i t want hg
  split at h
  ·rename_i b hb
   rcases dw h with ⟨h1,h2⟩|⟨h1,h2⟩
   ·obtain ⟨y,hy,h2⟩:=au h2
    refine .inl ⟨y,fun t' want' h'=>?_,hy,yJ h2⟩
    rw [hg] at h'
    injection h' with h'
    injection h' with e1 e2
    subst e1; subst e2
    rw [hb]
    have:b=want:=by simpa using h1
    rw [this]
   ·refine .inr ⟨t,want,hg,.inl ?_,h2⟩
    rw [hb]
    cases b<;>cases want<;>simp_all
  ·rename_i hb
   exact .inr ⟨t,want,hg,.inr hb,h⟩
  ·cases h
def jr {C:bt} {o:aR} {r:List aR} {env:Env} {M:ag} {y:ae×ag} (hg:∀t want,o.guard=some (t,want)->cL env t = .bool want)
  (hy:fV C o env M=some y):bN C (o::r) env M=tP o.lets y (bN C r (hV env o.dst y.1) y.2):=by
 rw [bN]
 split
 ·rw [hy]; rfl
 ·rename_i t want h
  rw [hg t want h,hy]
  simp
def nn {C:bt} {o:aR} {r:List aR} {env:Env} {M:ag} {t:Nat} {want:Bool} (hg:o.guard=some (t,want))
  (hb:cL env t = .bool (!want)\/cL env t = .tuple []):bN C (o::r) env M=bN C r (hV env o.dst (.tuple [])) M:=by
 rw [bN]
 simp only [hg]
 rcases hb with hb|hb
 ·rw [hb]; cases want<;>simp
 ·rw [hb]
def kd {C C':bt} (hC:mR C C'):∀ {ops:List aR} {env:Env} {M:ag} {x:Out},bN C ops env M=some x->bN C' ops env M=some x
 | [],_,_,_,h=>h
 |o::r,env,M,x,h=>by
  rcases gS h with ⟨y,h1,h2,h3⟩|⟨t,want,h1,h2,h3⟩
  ·rw [jr h1 (uI hC h2)]
   rcases h3 with ⟨h3,h4⟩|⟨v,h0,h3,rfl⟩
   ·rw [yK h3]; exact kd hC h4
   ·exact yL h0 h3
  ·rw [nn h1 h2]; exact kd hC h3
def kN {o:Out} {k:Env->ag->Option Out} {x:Out} (h:lQ o k=some x):(o.e = .normal/\k o.env o.mem=some x)\/(o.e ≠ .normal/\x=o):=by
 unfold lQ at h
 split at h
 ·exact .inl ⟨by assumption,h⟩
 ·rename_i hn
  injection h with h
  exact .inr ⟨hn,h.symm⟩
def ly {o:Out} {k:Env->ag->Option Out} (h:o.e = .normal):lQ o k=k o.env o.mem:=by unfold lQ; rw [h]
def re {o:Out} {k:Env->ag->Option Out} (h:o.e ≠ .normal):lQ o k=some o:=by
 unfold lQ
 split
 ·rename_i h'; exact absurd h' h
 ·rfl
def ml {o:Out} {k k':Env->ag->Option Out} {x:Out} (hk:∀env M x,k env M=some x->k' env M=some x) (h:lQ o k=some x):lQ o k'=some x:=by
 rcases kN h with ⟨h1,h2⟩|⟨h1,h2⟩
 ·rw [ly h1]; exact hk _ _ _ h2
 ·rw [re h1,h2]
def o5 {f g:Env->ag->Option Out} (hfg:∀env M x,f env M=some x->g env M=some x) (live:List Nat):∀n {env M x},iter f live n env M=some x->iter g live n env M=some x
 |0,_,_,_,h=>h
 |n+1,env,M,x,h=>by
  rw [iter] at *
  obtain ⟨a,ha,h⟩:=au h
  rw [hfg _ _ _ ha]
  exact ml (fun env M x h=>o5 hfg live n h) h
def mZ {f:Env->ag->Option Out} (live:List Nat):∀n {env M x},iter f live n env M=some x->iter f live (n+1) env M=some x
 |0,_,_,_,h=>by cases h
 |n+1,env,M,x,h=>by
  rw [iter] at h ⊢
  obtain ⟨a,ha,h⟩:=au h
  rw [ha]
  exact ml (fun env M x h=>mZ live n h) h
def dJ {C C':bt} (hC:mR C C'):∀(c:aO) {env:Env} {M:ag} {x:Out},br C c env M=some x->br C' c env M=some x
 | .skip,_,_,_,h=>h
 | .exit _,_,_,_,h=>h
 | .ret,_,_,_,h=>h
 | .region ops d live,env,M,x,h=>by
  simp only [br] at *
  obtain ⟨a,ha,h⟩:=au h
  rw [kd hC ha]; exact h
 | .seq a b,env,M,x,h=>by
  simp only [br] at *
  obtain ⟨o,ho,h⟩:=au h
  rw [dJ hC a ho]
  exact ml (fun env M x=>dJ hC b) h
 | .cond c a b,env,M,x,h=>by
  simp only [br] at *
  split
  ·rename_i t ht
   simp only [ht] at h
   rcases dw h with ⟨rfl,h⟩|⟨rfl,h⟩
   ·exact dJ hC a h
   ·exact dJ hC b h
  ·rename_i ht
   split at h
   ·rename_i t ht'; exact absurd ht' (ht t)
   ·cases h
 | .block id c,env,M,x,h=>by
  simp only [br] at *
  obtain ⟨o,ho,h⟩:=au h
  rw [dJ hC c ho]; exact h
 | .loop live c,env,M,x,h=>by
  simp only [br] at *
  obtain ⟨n,hn⟩:=na h
  exact gN (fun n x=>mZ live n) (o5 (fun env M x=>dJ hC c) live n hn)
def jo (T:qm):∀n,mR (dz T n) (dz T (n+1))
 |0,f,a,M,x,h=>by
  unfold dz at *
  split
  ·rename_i g hg; simp only [hg] at h; exact h
  ·rename_i hg; simp only [hg] at h; cases h
 |n+1,f,a,M,x,h=>by
  rw [dz] at h ⊢
  split
  ·rename_i g hg; simp only [hg] at h; exact h
  ·rename_i hg
   simp only [hg] at h
   split
   ·rename_i hf; simp only [hf] at h; cases h
   ·rename_i fn hf
    simp only [hf] at h
    split
    ·rename_i hl
     rw [if_pos hl] at h
     obtain ⟨o,ho,h⟩:=au h
     rw [dJ (jo T n) _ ho]
     exact h
    ·rename_i hl; rw [if_neg hl] at h; cases h
def ky (T:qm) {n m:Nat} (h:n<=m):mR (dz T n) (dz T m):=by
 obtain ⟨k,rfl⟩:=Nat.exists_eq_add_of_le h
 induction k with
 |zero=>exact fun _ _ _ _ h=>h
 |succ k ih=>exact fun f a M x hx=>jo T (n+k) f a M x (ih (by omega) f a M x hx)
def BG (T:qm) {env:Env} {M:ag} {o:aR} {x:ae×ag} (h:fV (ai T) o env M=some x):∃n,fV (dz T n) o env M=some x:=by
 have key:∀y,bd (ai T) env M o.op=some y->∃n,bd (dz T n) env M o.op=some y:=by
  intro y hy
  rcases Da hy with h|⟨f,a,B,z,h1,h2⟩
  ·exact ⟨0,h _⟩
  ·obtain ⟨n,hn⟩:=na h1
   exact ⟨n,h2 _ hn⟩
 rcases js h with ⟨hn,hi,h1⟩|⟨hn,hg,h1⟩|⟨hn,hg,hp,h1⟩<;>obtain ⟨n,h2⟩:=key _ h1
 ·exact ⟨n,by unfold fV; rw [hn,h2]; exact aM hi⟩
 ·exact ⟨n,by unfold fV; rw [hn,hg]; exact h2⟩
 ·exact ⟨n,by unfold fV; rw [hn,hg,h2]; exact aM hp⟩
def mS (T:qm):∀ {ops:List aR} {env:Env} {M:ag} {x:Out},bN (ai T) ops env M=some x->∃n,bN (dz T n) ops env M=some x
 | [],_,_,_,h=>⟨0,h⟩
 |o::r,env,M,x,h=>by
  rcases gS h with ⟨y,h1,h2,h3⟩|⟨t,want,h1,h2,h3⟩
  ·obtain ⟨n,hn⟩:=BG T h2
   rcases h3 with ⟨h3,h4⟩|⟨v,h0,h3,rfl⟩
   ·obtain ⟨m,hm⟩:=mS T h4
    refine ⟨max n m,?_⟩
    rw [jr h1 (uI (ky T (Nat.le_max_left n m)) hn),yK h3]
    exact kd (ky T (Nat.le_max_right n m)) hm
   ·exact ⟨n,by rw [jr h1 hn]; exact yL h0 h3⟩
  ·obtain ⟨m,hm⟩:=mS T h3
   exact ⟨m,by rw [nn h1 h2]; exact hm⟩
def ir (T:qm):∀(c:aO) {env:Env} {M:ag} {x:Out},br (ai T) c env M=some x->∃n,br (dz T n) c env M=some x
 | .skip,_,_,_,h=>⟨0,h⟩
 | .exit _,_,_,_,h=>⟨0,h⟩
 | .ret,_,_,_,h=>⟨0,h⟩
 | .region ops d live,env,M,x,h=>by
  simp only [br] at *
  obtain ⟨a,ha,h⟩:=au h
  obtain ⟨n,hn⟩:=mS T ha
  exact ⟨n,by rw [hn]; exact h⟩
 | .seq a b,env,M,x,h=>by
  simp only [br] at *
  obtain ⟨o,ho,h⟩:=au h
  obtain ⟨n,hn⟩:=ir T a ho
  rcases kN h with ⟨h1,h2⟩|⟨h1,h2⟩
  ·obtain ⟨m,hm⟩:=ir T b h2
   refine ⟨max n m,?_⟩
   rw [dJ (ky T (Nat.le_max_left n m)) a hn,aE,ly h1]
   exact dJ (ky T (Nat.le_max_right n m)) b hm
  ·exact ⟨n,by rw [hn,aE,re h1,h2]⟩
 | .cond c a b,env,M,x,h=>by
  simp only [br] at *
  split at h
  ·rename_i t ht
   rcases dw h with ⟨rfl,h⟩|⟨rfl,h⟩
   ·obtain ⟨n,hn⟩:=ir T a h; exact ⟨n,hn⟩
   ·obtain ⟨n,hn⟩:=ir T b h; exact ⟨n,hn⟩
  ·cases h
 | .block id c,env,M,x,h=>by
  simp only [br] at *
  obtain ⟨o,ho,h⟩:=au h
  obtain ⟨n,hn⟩:=ir T c ho
  exact ⟨n,by rw [hn]; exact h⟩
 | .loop live c,env,M,x,h=>by
  simp only [br] at *
  obtain ⟨k,hk⟩:=na h
  have:∀k env M,iter (br (ai T) c) live k env M=some x->∃n,iter (br (dz T n) c) live k env M=some x:=by
   intro k
   induction k with
   |zero=>intro env M h; cases h
   |succ k ih =>
    intro env M h
    rw [iter] at h
    obtain ⟨a,ha,h⟩:=au h
    obtain ⟨n,hn⟩:=ir T c ha
    rcases kN h with ⟨h1,h2⟩|⟨h1,h2⟩
    ·obtain ⟨m,hm⟩:=ih _ _ h2
     refine ⟨max n m,?_⟩
     rw [iter,dJ (ky T (Nat.le_max_left n m)) c hn,aE,ly h1]
     exact o5 (fun env M x=>dJ (ky T (Nat.le_max_right n m)) c) live k hm
    ·exact ⟨n,by rw [iter,hn,aE,re h1,h2]⟩
  obtain ⟨n,hn⟩:=this k env M hk
  exact ⟨n,gN (fun n x=>mZ live n) hn⟩
def BC (C:bt) (live:List Nat) (c:aO) (env:Env) (M:ag) :
  br C (.loop live c) env M=aF (br C c (fI env live) M) fun o=>lQ o fun e m=>br C (.loop live c) (qy M.length m (fI e live)) (eW M.length m):=by
 apply Option.ext
 intro x
 constructor
 ·intro h
  obtain ⟨n,hn⟩:=na (show lim (fun n=>iter (br C c) live n env M)=some x from h)
  cases n with
  |zero=>cases hn
  |succ n =>
   rw [iter] at hn
   obtain ⟨o,ho,hn⟩:=au hn
   rw [ho,aE]
   exact ml (fun env M x hx=>gN (fun n x=>mZ live n) hx) hn
 ·intro h
  obtain ⟨o,ho,h⟩:=au h
  rcases kN h with ⟨h1,h2⟩|⟨h1,h2⟩
  ·obtain ⟨n,hn⟩:=na (show lim (fun n=>iter (br C c) live n (qy M.length o.mem (fI o.env live)) (eW M.length o.mem))=some x from h2)
   refine gN (F:=fun n=>iter (br C c) live n env M) (n:=n+1) (fun n x=>mZ live n) ?_
   show iter (br C c) live (n+1) env M=some x
   rw [iter,ho,aE,ly h1]
   exact hn
  ·refine gN (F:=fun n=>iter (br C c) live n env M) (n:=1) (fun n x=>mZ live n) ?_
   show iter (br C c) live 1 env M=some x
   rw [iter,ho,aE,re h1,h2]
def BA {T:qm} {f:Nat} {fn:cf} {args:List ae} {M:ag} {x:ae×ag} (hp:T.fT f=none) (hc:T.code f=some fn) (hl:args.length=fn.nparams)
  (h:aF (br (ai T) fn.body (fh 0 args) M) (finish fn.results M.length)=some x):ai T f args M=some x:=by
 obtain ⟨o,hb,hf⟩:=au h
 obtain ⟨n,hn⟩:=ir T fn.body hb
 refine gN (n:=n+1) (fun n x h=>jo T n f args M x h) ?_
 rw [dz]
 simp only [hp,hc,if_pos hl,hn,aE]
 exact hf
def bz {T:qm} {f:Nat} {g:List ae->ag->Option (ae×ag)} {args:List ae} {M:ag} {x:ae×ag} (hp:T.fT f=some g) (hg:g args M=some x):ai T f args M=some x:=by
 refine gN (n:=0) (fun n x h=>jo T n f args M x h) ?_
 rw [dz]
 simp only [hp,hg]
inductive K where
 |seq (c:aO)
 |block (id:Nat)
 |loop (live:List Nat) (n:Nat) (c:aO)
noncomputable def kr (C:bt) (fn:List lL) (base:Nat):List K->Out->Option (ae×ag)
 | [],o=>finish fn base o
 | .seq c::k,o=>aF (lQ o (br C c)) (kr C fn base k)
 | .block id::k,o=>kr C fn base k (nB id o)
 | .loop live n c::k,o=>aF (lQ o fun e m=>br C (.loop live c) (qy n m (fI e live)) (eW n m)) (kr C fn base k)
noncomputable def cJ (C:bt) (fn:List lL) (base:Nat) (k:List K) (c:aO) (env:Env) (M:ag):Option (ae×ag):=aF (br C c env M) (kr C fn base k)
noncomputable def cE (C:bt) (fn:List lL) (base:Nat) (k:List K) (live:List Nat) (ops:List aR) (env:Env) (M:ag):Option (ae×ag) :=
 aF (bN C ops env M) fun o=>kr C fn base k (o.iM live)
noncomputable def gD (C:bt) (fn:List lL) (base:Nat) (k:List K) (live:List Nat) (c:Bool) (dst:Option Nat) (r:List aR) (env:Env) (y:Option (ae×ag)):Option (ae×ag) :=
 aF y fun x=>aF (tP c x (bN C r (hV env dst x.1) x.2)) fun o=>kr C fn base k (o.iM live)
noncomputable def gK (C:bt) (fn:List lL) (base:Nat) (k:List K) (live:List Nat) (g:ae) (want:Bool) (o:aR) (r:List aR) (env:Env) (M:ag):Option (ae×ag) :=
 match g with
 | .bool b=>pE (b==want) (gD C fn base k live o.lets o.dst r env (fV C o env M)) (cE C fn base k live r (hV env o.dst (.tuple [])) M)
 | .tuple []=>cE C fn base k live r (hV env o.dst (.tuple [])) M
 |_=>none
noncomputable def bG (C:bt) (fn:List lL) (base:Nat) (k:List K) (v:ae) (x y:aO) (env:Env) (M:ag):Option (ae×ag) :=
 match v with
 | .bool t=>pE t (cJ C fn base k x env M) (cJ C fn base k y env M)
 |_=>none
def iG {α β γ:Type} (x:Option α) (f:α->Option β) (g:β->Option γ):aF (aF x f) g=aF x fun a=>aF (f a) g:=by cases x<;>rfl
section
variable (C:bt) (fn:List lL) (base:Nat) (k:List K) (env:Env) (M:ag)
def GY:cJ C fn base k .skip env M=kr C fn base k ⟨.normal,env,M⟩:=rfl
def GX (id:Nat):cJ C fn base k (.exit id) env M=kr C fn base k ⟨.exit id,env,M⟩:=rfl
def MY:cJ C fn base k .ret env M=kr C fn base k ⟨.ret,env,M⟩:=rfl
def MZ (a b:aO):cJ C fn base k (.seq a b) env M=cJ C fn base (.seq b::k) a env M:=by
 unfold cJ
 rw [br,iG]
 rfl
def E1 (id:Nat) (c:aO):cJ C fn base k (.block id c) env M=cJ C fn base (.block id::k) c env M:=by
 unfold cJ
 rw [br,iG]
 rfl
def GW (c:cj) (x y:aO):cJ C fn base k (.cond c x y) env M=bG C fn base k (c.ev env) x y env M:=by
 unfold cJ bG
 rw [br]
 cases c.ev env<;>simp [cJ]
def Cf (ops:List aR) (d:Bool) (live:List Nat):cJ C fn base k (.region ops d live) env M=cE C fn base k live ops env M:=by
 unfold cJ cE
 rw [br,iG]
 rfl
def aB (live:List Nat) (c:aO):cJ C fn base k (.loop live c) env M=cJ C fn base (.loop live M.length c::k) c (fI env live) M:=by
 unfold cJ
 rw [BC,iG]
 rfl
def Li (live:List Nat):cE C fn base k live [] env M=kr C fn base k ⟨.normal,fI env live,M⟩:=rfl
def FN (live:List Nat) (d:Option Nat) (op:dS) (g m:Bool) (s:List Nat) (st:Bool) (r:List aR) :
  cE C fn base k live (⟨d,op,none,g,m,s,st⟩::r) env M=gD C fn base k live (aR.lets ⟨d,op,none,g,m,s,st⟩) d r env (fV C ⟨d,op,none,g,m,s,st⟩ env M):=by
 unfold cE gD
 rw [bN,iG]
def FO (live:List Nat) (d:Option Nat) (op:dS) (t:Nat) (w g m:Bool) (s:List Nat) (st:Bool) (r:List aR) :
  cE C fn base k live (⟨d,op,some (t,w),g,m,s,st⟩::r) env M=gK C fn base k live (cL env t) w ⟨d,op,some (t,w),g,m,s,st⟩ r env M:=by
 unfold cE gK
 rw [bN]
 simp only
 generalize cL env t=v
 split
 ·rw [Fz,iG]; rfl
 ·rfl
 ·rename_i h1 h2
  first
   |rfl
   |(split
     ·rename_i b; exact absurd rfl (h1 b)
     ·exact absurd rfl h2
     ·rfl)
def KV (live:List Nat) (c:Bool) (d:Option Nat) (r:List aR) (v:ae) (M':ag) (hv:v.di=false):gD C fn base k live c d r env (some (v,M'))=cE C fn base k live r (hV env d v) M':=by
 unfold gD
 rw [aE,yK hv]; rfl
def Ov (live:List Nat) (d:Option Nat) (r:List aR) (v:Value) (M':ag):gD C fn base k live true d r env (some (.fK v,M'))=kr C fn base k ⟨.fK v,[],M'⟩:=rfl
def Fp (d g f:_) (a m s1 s:_):aR.lets ⟨d,.call f a,g,m,s1,s,true⟩=true:=rfl
def CB (d g f:_) (a m s1 s:_):aR.lets ⟨d,.nr f a,g,m,s1,s,true⟩=true:=rfl
def Cz (d g f:_) (a m s1 s:_):aR.lets ⟨d,.tn f a,g,m,s1,s,true⟩=true:=rfl
def CA (d g f:_) (a m s1 s:_):aR.lets ⟨d,.eh f a,g,m,s1,s,true⟩=true:=rfl
def CC (d g f:_) (m s1 s:_):aR.lets ⟨d,.raise f,g,m,s1,s,true⟩=true:=rfl
def WA (live:List Nat) (o:aR) (r:List aR):gK C fn base k live (.bool true) true o r env M=gD C fn base k live o.lets o.dst r env (fV C o env M):=rfl
def Wx (live:List Nat) (o:aR) (r:List aR):gK C fn base k live (.bool false) false o r env M=gD C fn base k live o.lets o.dst r env (fV C o env M):=rfl
def Wz (live:List Nat) (o:aR) (r:List aR):gK C fn base k live (.bool true) false o r env M=cE C fn base k live r (hV env o.dst (.tuple [])) M:=rfl
def Wy (live:List Nat) (o:aR) (r:List aR):gK C fn base k live (.bool false) true o r env M=cE C fn base k live r (hV env o.dst (.tuple [])) M:=rfl
def WB (live:List Nat) (w:Bool) (o:aR) (r:List aR):gK C fn base k live (.tuple []) w o r env M=cE C fn base k live r (hV env o.dst (.tuple [])) M:=rfl
def Na (x y:aO):bG C fn base k (.bool true) x y env M=cJ C fn base k x env M:=rfl
def M9 (x y:aO):bG C fn base k (.bool false) x y env M=cJ C fn base k y env M:=rfl
def Su (c:aO):kr C fn base (.seq c::k) ⟨.normal,env,M⟩=cJ C fn base k c env M:=rfl
def Ay (c:aO) (i:Nat):kr C fn base (.seq c::k) ⟨.exit i,env,M⟩=kr C fn base k ⟨.exit i,env,M⟩:=rfl
def Cs (c:aO):kr C fn base (.seq c::k) ⟨.ret,env,M⟩=kr C fn base k ⟨.ret,env,M⟩:=rfl
def Cr (c:aO) (v:Value):kr C fn base (.seq c::k) ⟨.fK v,env,M⟩=kr C fn base k ⟨.fK v,env,M⟩:=rfl
def yw (id:Nat) (v:Value):kr C fn base (.block id::k) ⟨.fK v,env,M⟩=kr C fn base k ⟨.fK v,env,M⟩:=rfl
def Aw (live:List Nat) (n:Nat) (c:aO) (v:Value):kr C fn base (.loop live n c::k) ⟨.fK v,env,M⟩=kr C fn base k ⟨.fK v,env,M⟩:=rfl
def Kw (id:Nat):kr C fn base (.block id::k) ⟨.normal,env,M⟩=kr C fn base k ⟨.normal,env,M⟩:=rfl
def wy (id i:Nat):kr C fn base (.block id::k) ⟨.exit i,env,M⟩=if i=id then kr C fn base k ⟨.normal,env,M⟩ else kr C fn base k ⟨.exit i,env,M⟩:=by
 rw [kr]; simp only [nB]; split<;>rfl
def yx (id:Nat):kr C fn base (.block id::k) ⟨.ret,env,M⟩=kr C fn base k ⟨.ret,env,M⟩:=rfl
def Nk (live:List Nat) (n:Nat) (c:aO):kr C fn base (.loop live n c::k) ⟨.normal,env,M⟩=cJ C fn base k (.loop live c) (qy n M (fI env live)) (eW n M):=rfl
def yy (live:List Nat) (n:Nat) (c:aO) (i:Nat):kr C fn base (.loop live n c::k) ⟨.exit i,env,M⟩=kr C fn base k ⟨.exit i,env,M⟩:=rfl
def Ax (live:List Nat) (n:Nat) (c:aO):kr C fn base (.loop live n c::k) ⟨.ret,env,M⟩=kr C fn base k ⟨.ret,env,M⟩:=rfl
def St (o:Out):kr C fn base [] o=finish fn base o:=rfl
end
def eo {q body:aO} (h:q=body) (C:bt) (fn:List lL) (base:Nat) (k:List K) (env:Env) (M:ag):cJ C fn base k q env M=cJ C fn base k body env M:=by rw [h]
def aq {T:qm} {f:Nat} {fn:cf} {args:List ae} {M:ag} {x:ae×ag} (h:cJ (ai T) fn.results M.length [] fn.body (fh 0 args) M=some x)
  (hp:T.fT f=none:=by exact rfl) (hc:T.code f=some fn:=by exact rfl) (hl:args.length=fn.nparams:=by exact rfl):ai T f args M=some x :=
 BA hp hc hl (by
  unfold cJ at h
  obtain ⟨o,h1,h2⟩:=au h
  rw [h1]; exact h2)
end
section
open Go Go.RowKit
def bs (s:List UInt8):ByteArray:=⟨s.toArray⟩
structure J where
 f:Nat->Option Nat
 X:Nat->Nat->Prop
instance:CoeFun J (fun _=>Nat->Option Nat):=⟨J.f⟩
structure fJ (j:J) (M:ag) (w:World) (b off:Nat):Prop where
 lt:b<w.heap.size
 ids:∀id,id<M.length->j id=some b->∃sz n,M[id]?=some (.tick sz n)/\off<n*sz
 nx:¬j.X b off
inductive bF (w:World) (cu:Nat->Nat->Prop):ae->Value->Prop where
 |bool (b:Bool):bF w cu (.bool b) (.bool b)
 |int (k:IntKind) (n:Int):bF w cu (.int k n) (.int k n)
 |str (s:List UInt8):bF w cu (.str s) (.string (bs s))
 |raw (v:Value) (h1:v.oneCell'=true):bF w cu (.raw v) v
 |slice (xs:List ae) (A:Option Addr) (len cap b off sz:Nat) (vs:Nat->Value) (hl:len=xs.length) (hc:len<=cap)
   (ha:xs≠[]->A=some ⟨b,off,none⟩) (hz:∀x,x∈xs->x.cells.length=sz)
   (hs:∀(i:Nat) (x:ae) (k:Nat) (c:ae),xs[i]?=some x->x.cells[k]?=some c->w.cell? ⟨b,off+(i*sz+k),none⟩=some (vs (i*sz+k))/\cu b (off+(i*sz+k)))
   (hr:∀(i:Nat) (x:ae) (k:Nat) (c:ae),xs[i]?=some x->x.cells[k]?=some c->bF w cu c (vs (i*sz+k))):bF w cu (.slice .sh xs) (.slice A len cap)
def zh (j:J) (w:World) (k n t:Nat) (x:Bool) (v:Value):Prop :=
 (j k=none/\n=0/\∃A,v = .slice A 0 0/\(x=true->A=none)) \/
 ∃b cap vs,0<n/\j k=some b/\v = .slice (some ⟨b,0,none⟩) n cap/\w.heap[b]?=some (.cells vs t (0,0))/\cap<=vs.size/\n<=cap
def zi (j:J) (w:World) (k sz n:Nat) (v:Value):Prop :=
 (j k=none/\n=0/\∃A,v = .slice A 0 0) \/
 ∃b cap vs t,j k=some b/\v = .slice (some ⟨b,0,none⟩) n cap/\w.heap[b]?=some (.cells vs t (0,0))/\cap*sz<=vs.size/\n<=cap
def ud (w:World) (cu:Nat->Nat->Prop) (x:ae) (v:Value):Prop :=
 match x with
 | .agg cs=>∃us:Array Value,v = .agg us/\cs.length=us.size/\∀(i:Nat) (c:ae) (u:Value),cs[i]?=some c->us[i]?=some u->bF w cu c u
 |x=>bF w cu x v
inductive bQ (j:J) (M:ag) (w:World):ae->Value->Prop where
 |plain {x:ae} {v:Value} (h:bF w (fJ j M w) x v):bQ j M w x v
 |c0 (A:Option Addr):bQ j M w (.slice .c0 []) (.slice A 0 0)
 |own {k:Nat} {xs:List ae} {v:Value} {sz n:Nat} (hk:M[k]?=some (.tick sz n)) (hn:xs.length<=n) (h:bF w (fJ j M w) (.slice .sh xs) v)
   (ht:xs.length=n->zi j w k sz n v):bQ j M w (.slice (.own k) xs) v
 |agg {cs:List ae} {vs:Array Value} (hl:cs.length=vs.size) (h:∀(i:Nat) (c:ae) (v:Value),cs[i]?=some c->vs[i]?=some v->bQ j M w c v):bQ j M w (.agg cs) (.agg vs)
 |tuple {cs:List ae} {vs:Array Value} (hl:cs.length=vs.size) (h:∀(i:Nat) (c:ae) (v:Value),cs[i]?=some c->vs[i]?=some v->bQ j M w c v):bQ j M w (.tuple cs) (.tuple vs)
 |ptr {id off b:Nat} (hid:id<M.length) (hc:∃cs,M[id]?=some (.cells cs)) (hj:j id=some b):bQ j M w (.ptr id off) (.pointer (some ⟨b,off,none⟩))
 |cW {cs:List ae} {b off:Nat} {vs:Nat->Value} (h:∀(k:Nat) (c:ae),cs[k]?=some c->w.cell? ⟨b,off+k,none⟩=some (vs k)/\fJ j M w b (off+k)/\bF w (fJ j M w) c (vs k)) :
   bQ j M w (.cW cs) (.pointer (some ⟨b,off,none⟩))
 |func {f:Nat} {caps:List ae} {vs:Array Value} (hl:caps.length=vs.size) (h:∀(i:Nat) (c:ae) (v:Value),caps[i]?=some c->vs[i]?=some v->bQ j M w c v) :
   bQ j M w (.func f caps) (.func (.func f) #[] vs)
 |cz {id b:Nat} (hc:∃ks vs,M[id]?=some (.map ks vs)) (hj:j id=some b):bQ j M w (.cz id) (.map (some b))
 |dp {id b:Nat} (hc:∃s p,M[id]?=some (.fB s p)) (hj:j id=some b):bQ j M w (.dp id) (.pointer (some ⟨b,0,none⟩))
 |du {ks vs:List ae} {b:Nat} {es:Array MapEntry} {clock:Nat} (hb:b<w.heap.size) (hf:∀i,i<M.length->j i≠some b) (hx:∀off,¬j.X b off) (hw:w.heap[b]?=some (.map es clock)) (hk:ks.length=es.size) (hv:vs.length=es.size)
   (hks:∀(i:Nat) (k:ae) (e:MapEntry),ks[i]?=some k->es[i]?=some e->bF w (fJ j M w) k e.key) (hvs:∀(i:Nat) (v:ae) (e:MapEntry),vs[i]?=some v->es[i]?=some e->ud w (fJ j M w) v e.val) :
   bQ j M w (.du ks vs) (.map (some b))
 |aZ {id ver sz lo hi:Nat} {v:Value} (h0:(∃b off c,v = .slice (some ⟨b,off,none⟩) (hi-lo) c/\hi-lo<=c)\/hi-lo=0/\∃A,v = .slice A 0 0) (hid:id<M.length) (hM:∀bx,M[id]?=some bx->bx.loose=true)
   (hv:∀sz' v' xs,M[id]?=some (.arr sz' v' xs)->ver<=v'/\(v'=ver->sz'=sz/\lo<=hi/\hi<=xs.length/\((xs=[]/\j id=none/\∃A,v = .slice A 0 0)\/∃b cap vs t,j id=some b/\v = .slice (some ⟨b,lo*sz,none⟩) (hi-lo) cap/\hi-lo<=cap/\w.heap[b]?=some (.cells vs t (0,0))/\(lo+cap)*sz<=vs.size))) :
   bQ j M w (.aZ id ver sz lo hi) v
 |cV {id ver i off:Nat} {v:Value} (h0:∃b o,v = .pointer (some ⟨b,o,none⟩)) (hid:id<M.length) (hM:∀bx,M[id]?=some bx->bx.loose=true)
   (hv:∀sz v' xs,M[id]?=some (.arr sz v' xs)->ver<=v'/\(v'=ver->i<xs.length/\∃b,j id=some b/\v = .pointer (some ⟨b,i*sz+off,none⟩))) :
   bQ j M w (.cV id ver i off) v
 |iA {f:Nat} {fs:List ae} {vs:Array Value} (hl:fs.length=vs.size) (h:∀(i:Nat) (c:ae) (v:Value),fs[i]?=some c->vs[i]?=some v->ud w (fJ j M w) c v):bQ j M w (.iA f fs) (.func (.func f) vs #[])
 |bI {id t b:Nat} {v:Value} (hc:∃cs,M[id]?=some (.cells cs)) (hj:j id=some b) (hk:∃vs fr,w.heap[b]?=some (.cells vs t fr)) (hv:v = .pointer none\/v = .pointer (some ⟨b,0,none⟩)):bQ j M w (.bI id t) v
 |dI {t id off b:Nat} (hc:∃cs,M[id]?=some (.cells cs)) (hj:j id=some b):bQ j M w (.dI t id off) (.iface t (.pointer (some ⟨b,off,none⟩)))
 |cA {k t n:Nat} {x:Bool} {l:List UInt8} {v:Value} (hk:M[k]?=some (.tick 1 n)) (hn:l.length<=n) (h:bF w (fJ j M w) (.slice .sh (l.map jk)) v) (ht:l.length=n->zh j w k n t x v):bQ j M w (.cA k t x l) v
 |any (v:Value):bQ j M w .any v
def RC (j:J) (M:ag) (w:World) (cs:List ae) (vs:Array Value):Prop :=
 cs.length=vs.size/\∀(i:Nat) (c:ae) (v:Value),cs[i]?=some c->vs[i]?=some v->bQ j M w c v
def Holds (j:J) (M:ag) (w:World) (b:Nat):aK->Prop
 | .cells cs=>∃vs t,w.heap[b]?=some (.cells vs t (0,0))/\RC j M w cs vs
 | .tick _ _=>True
 | .map ks vs=>∃es clock,w.heap[b]?=some (.map es clock)/\ks.length=es.size/\vs.length=es.size/\(∀(i:Nat) (k:ae) (e:MapEntry),ks[i]?=some k->es[i]?=some e->bF w (fJ j M w) k e.key) /\
   ∀(i:Nat) (v:ae) (e:MapEntry),vs[i]?=some v->es[i]?=some e->bQ j M w v e.val
 | .fB s pos=>w.heap[b]?=some (.stringIter (bs s) pos)
 | .arr _ _ _=>True
 | .mO=>True
structure Rel (j:J) (M:ag) (w:World):Prop where
 inj:∀i i' b,i<M.length->i'<M.length->j i=some b->j i'=some b->i=i'
 lt:∀i b,i<M.length->j i=some b->b<w.heap.size
 fix:∀i bx,M[i]?=some bx->bx.fixed=true->∃b,j i=some b/\Holds j M w b bx
 tick:∀i sz n b,M[i]?=some (.tick sz n)->j i=some b->∃vs t,w.heap[b]?=some (.cells vs t (0,0))
 arr:∀i sz ver xs,M[i]?=some (.arr sz ver xs)->(xs=[]/\j i=none)\/∃b vs t,j i=some b/\w.heap[b]?=some (.cells vs t (0,0))/\xs.length*sz<=vs.size/\(∀x,x∈xs->x.cells.length=sz) /\
  ∀(q:Nat) (x:ae) (k:Nat) (c:ae),xs[q]?=some x->x.cells[k]?=some c->∃v,vs[q*sz+k]?=some v/\bF w (fJ j M w) c v
 lY:∀i b,i<M.length->j i=some b->∀off,¬j.X b off
 qo:∀b off,j.X b off->b<w.heap.size
def Rel.box {j:J} {M:ag} {w:World} (h:Rel j M w) (i:Nat) (cs:List ae) (hi:M[i]?=some (.cells cs)):∃b vs t,j i=some b/\w.heap[b]?=some (.cells vs t (0,0))/\cs.length=vs.size /\
  ∀(q:Nat) (c:ae) (v:Value),cs[q]?=some c->vs[q]?=some v->bQ j M w c v:=by
 obtain ⟨b,h1,vs,t,h2,h3⟩:=h.fix i _ hi rfl
 exact ⟨b,vs,t,h1,h2,h3.1,h3.2⟩
structure Ext (j:J) (M:ag) (w:World) (j':J) (M':ag) (w':World):Prop where
 len:M.length<=M'.length
 size:w.heap.size<=w'.heap.size
 os:w'.os=w.os
 tape:w'.tape=w.tape
 output:w'.output=w.output
 X:j'.X=j.X
 fix:∀i bx,M[i]?=some bx->bx.fixed=true->j' i=j i/\∃bx',M'[i]?=some bx'/\bx'.tag=bx.tag
 tick:∀i sz n,M[i]?=some (.tick sz n)->∃n',n<=n'/\M'[i]?=some (.tick sz n') /\
  (n'=n->j' i=j i/\∀b vs t,j i=some b->w.heap[b]?=some (.cells vs t (0,0))->∃vs',w'.heap[b]?=some (.cells vs' t (0,0))/\vs'.size=vs.size)
 arr:∀i sz ver xs,M[i]?=some (.arr sz ver xs)->(∃n',M'[i]?=some (.tick sz n'))\/∃ver' xs',M'[i]?=some (.arr sz ver' xs')/\ver<=ver' /\
  (ver'=ver->j' i=j i/\xs'.length=xs.length/\∀b vs t,j i=some b->w.heap[b]?=some (.cells vs t (0,0))->∃vs',w'.heap[b]?=some (.cells vs' t (0,0))/\vs'.size=vs.size)
 tags:∀(b:Nat) (vs:Array Value) (t:TypeId) (fr:Nat×Nat),w.heap[b]?=some (.cells vs t fr)->∃vs' fr',w'.heap[b]?=some (.cells vs' t fr')/\vs'.size=vs.size
 cu:∀b off,fJ j M w b off->fJ j' M' w' b off/\w'.cell? ⟨b,off,none⟩=w.cell? ⟨b,off,none⟩
 mP:∀b,b<w.heap.size->(∀i,i<M.length->j i≠some b)->w'.heap[b]?=w.heap[b]?/\∀i,i<M'.length->j' i≠some b
def tb {a b:aK} (h:b.tag=a.tag) (ha:a.fixed=true):b.fixed=true:=by
 cases a<;>cases b<;>simp [aK.tag,aK.fixed] at * <;> omega
def sZ {b:aK} (h:b.tag=0):∃cs,b = .cells cs:=by cases b<;>simp [aK.tag] at h; exact ⟨_,rfl⟩
def O1 {b:aK} (h:b.tag=1):∃ks vs,b = .map ks vs:=by cases b<;>simp [aK.tag] at h; exact ⟨_,_,rfl⟩
def F6 {b:aK} (h:b.tag=2):∃s p,b = .fB s p:=by cases b<;>simp [aK.tag] at h; exact ⟨_,_,rfl⟩
def bF.mono {w w':World} {cu saf':Nat->Nat->Prop} (h:∀b off,cu b off->saf' b off/\w'.cell? ⟨b,off,none⟩=w.cell? ⟨b,off,none⟩)
  {x:ae} {v:Value} (hr:bF w cu x v):bF w' saf' x v:=by
 induction hr with
 |bool b=>exact .bool b
 |int k n=>exact .int k n
 |str s=>exact .str s
 |raw v h1=>exact .raw v h1
 |slice xs A len cap b off sz vs hl hc ha hz hs _ ih =>
  refine .slice xs A len cap b off sz vs hl hc ha hz (fun i x k c hx hk=>?_) ih
  obtain ⟨h1,h2⟩:=hs i x k c hx hk
  obtain ⟨h3,h4⟩:=h _ _ h2
  exact ⟨h4.trans h1,h3⟩
def ud.mono {w w':World} {cu saf':Nat->Nat->Prop} (h:∀b off,cu b off->saf' b off/\w'.cell? ⟨b,off,none⟩=w.cell? ⟨b,off,none⟩)
  {x:ae} {v:Value} (hr:ud w cu x v):ud w' saf' x v:=by
 by_cases hag:∃cs,x = .agg cs
 ·obtain ⟨cs,rfl⟩:=hag
  obtain ⟨us,h1,h2,h3⟩:=hr
  exact ⟨us,h1,h2,fun i c u hc hu=>(h3 i c u hc hu).mono h⟩
 ·cases x<;>first|exact absurd ⟨_,rfl⟩ hag|exact bF.mono h hr
section
variable {j j' j'':J} {M M' M'':ag} {w w' w'':World}
def zh.mono {k n t:Nat} {x:Bool} {v:Value} (h:zh j w k n t x v) (hj:j' k=j k)
  (hb:∀b vs t,j k=some b->w.heap[b]?=some (.cells vs t (0,0))->∃vs',w'.heap[b]?=some (.cells vs' t (0,0))/\vs'.size=vs.size):zh j' w' k n t x v:=by
 rcases h with ⟨h1,h2,h3⟩|⟨b,cap,vs,h0,h1,h2,h3,h4,h5⟩
 ·exact .inl ⟨hj.trans h1,h2,h3⟩
 ·obtain ⟨vs',h6,h7⟩:=hb b vs t h1 h3
  exact .inr ⟨b,cap,vs',h0,hj.trans h1,h2,h6,by omega,h5⟩
def zi.mono {k sz n:Nat} {v:Value} (h:zi j w k sz n v) (hj:j' k=j k)
  (hb:∀b vs t,j k=some b->w.heap[b]?=some (.cells vs t (0,0))->∃vs',w'.heap[b]?=some (.cells vs' t (0,0))/\vs'.size=vs.size):zi j' w' k sz n v:=by
 rcases h with ⟨h1,h2,h3⟩|⟨b,cap,vs,t,h1,h2,h3,h4,h5⟩
 ·exact .inl ⟨hj.trans h1,h2,h3⟩
 ·obtain ⟨vs',h6,h7⟩:=hb b vs t h1 h3
  exact .inr ⟨b,cap,vs',t,hj.trans h1,h2,h6,by omega,h5⟩
def Ext.loose (hx:Ext j M w j' M' w') {id:Nat} (hid:id<M.length) (hM:∀bx,M[id]?=some bx->bx.loose=true):(∀bx,M'[id]?=some bx->bx.loose=true) /\
  ∀sz v' xs,M'[id]?=some (.arr sz v' xs)->∃v0 xs0,M[id]?=some (.arr sz v0 xs0)/\v0<=v' /\
   (v'=v0->j' id=j id/\xs.length=xs0.length/\∀b vs t,j id=some b->w.heap[b]?=some (.cells vs t (0,0))->∃vs',w'.heap[b]?=some (.cells vs' t (0,0))/\vs'.size=vs.size):=by
 have h0:=List.getElem?_eq_getElem hid
 have hf:=hM _ h0
 generalize M[id]=bx at h0 hf
 cases bx with
 |cells=>cases hf
 |map=>cases hf
 |fB=>cases hf
 |mO=>cases hf
 |tick sz n =>
  obtain ⟨n',h1,h2,h3⟩:=hx.tick _ _ _ h0
  refine ⟨fun bx hb=>?_,fun sz v' xs h=>?_⟩
  ·rw [h2] at hb; injection hb with hb; subst hb; rfl
  ·rw [h2] at h; cases h
 |arr sz v xs =>
  rcases hx.arr _ _ _ _ h0 with ⟨n',h2⟩|⟨v1,xs1,h2,h3,h4⟩
  ·refine ⟨fun bx hb=>?_,fun sz v' xs h=>?_⟩
   ·rw [h2] at hb; injection hb with hb; subst hb; rfl
   ·rw [h2] at h; cases h
  ·refine ⟨fun bx hb=>?_,fun sz' v' xs' h=>?_⟩
   ·rw [h2] at hb; injection hb with hb; subst hb; rfl
   ·rw [h2] at h; injection h with h; injection h with e1 e2 e3
    subst e1; subst e2; subst e3
    exact ⟨v,xs,h0,h3,h4⟩
def bQ.mono (hx:Ext j M w j' M' w') {x:ae} {v:Value} (hr:bQ j M w x v):bQ j' M' w' x v:=by
 induction hr with
 |plain h=>exact .plain (h.mono hx.cu)
 |c0 A=>exact .c0 A
 |own hk hn h ht =>
  obtain ⟨n',h1,h2,h3⟩:=hx.tick _ _ _ hk
  refine .own h2 (by omega) (h.mono hx.cu) (fun he=>?_)
  have:n'=_:=Nat.le_antisymm (by omega) h1
  obtain ⟨h4,h5⟩:=h3 this
  subst this
  exact (ht he).mono h4 h5
 |agg hl _ ih=>exact .agg hl ih
 |tuple hl _ ih=>exact .tuple hl ih
 |ptr hid hc hj =>
  obtain ⟨cs,hc⟩:=hc
  obtain ⟨h1,bx,h2,h3⟩:=hx.fix _ _ hc rfl
  obtain ⟨cs',rfl⟩:=sZ h3
  exact .ptr (Nat.lt_of_lt_of_le hid hx.len) ⟨_,h2⟩ (h1.trans hj)
 | @cW cs b off vs h =>
  refine .cW (vs:=vs) fun k c hk=>?_
  obtain ⟨h1,h2,h3⟩:=h k c hk
  obtain ⟨h4,h5⟩:=hx.cu _ _ h2
  exact ⟨h5.trans h1,h4,h3.mono hx.cu⟩
 |func hl _ ih=>exact .func hl ih
 |cz hc hj =>
  obtain ⟨ks,vs,hc⟩:=hc
  obtain ⟨h1,bx,h2,h3⟩:=hx.fix _ _ hc rfl
  obtain ⟨ks',vs',rfl⟩:=O1 h3
  exact .cz ⟨_,_,h2⟩ (h1.trans hj)
 |dp hc hj =>
  obtain ⟨ks,vs,hc⟩:=hc
  obtain ⟨h1,bx,h2,h3⟩:=hx.fix _ _ hc rfl
  obtain ⟨ks',vs',rfl⟩:=F6 h3
  exact .dp ⟨_,_,h2⟩ (h1.trans hj)
 |du hb hf hxx hw hk hv hks hvs =>
  obtain ⟨h1,h2⟩:=hx.mP _ hb hf
  exact .du (Nat.lt_of_lt_of_le hb hx.size) h2 (by rw [hx.X]; exact hxx) (h1.trans hw) hk hv (fun i k e h1 h2=>(hks i k e h1 h2).mono hx.cu) (fun i k e h1 h2=>(hvs i k e h1 h2).mono hx.cu)
 |aZ hs hid hM hv =>
  obtain ⟨g1,g2⟩:=hx.loose hid hM
  refine .aZ hs (Nat.lt_of_lt_of_le hid hx.len) g1 fun sz v' xs h=>?_
  obtain ⟨v0,xs0,h0,h1,h2⟩:=g2 sz v' xs h
  obtain ⟨h3,h4⟩:=hv sz v0 xs0 h0
  refine ⟨by omega,fun he=>?_⟩
  obtain ⟨h5,h6,h7⟩:=h2 (by omega)
  obtain ⟨l0,l1,l2,⟨rfl,l3,l4⟩|⟨b,cap,vs,t,l3,l4,l5,l6,l7⟩⟩:=h4 (by omega)
  ·exact ⟨l0,l1,by omega,.inl ⟨List.eq_nil_of_length_eq_zero (by simpa using h6),h5.trans l3,l4⟩⟩
  obtain ⟨vs',l8,l9⟩:=h7 b vs t l3 l6
  exact ⟨l0,l1,by omega,.inr ⟨b,cap,vs',t,h5.trans l3,l4,l5,l8,by omega⟩⟩
 |cV hs hid hM hv =>
  obtain ⟨g1,g2⟩:=hx.loose hid hM
  refine .cV hs (Nat.lt_of_lt_of_le hid hx.len) g1 fun sz v' xs h=>?_
  obtain ⟨v0,xs0,h0,h1,h2⟩:=g2 sz v' xs h
  obtain ⟨h3,h4⟩:=hv sz v0 xs0 h0
  refine ⟨by omega,fun he=>?_⟩
  obtain ⟨h5,h6,h7⟩:=h2 (by omega)
  obtain ⟨l1,b,l3,l4⟩:=h4 (by omega)
  exact ⟨by omega,b,h5.trans l3,l4⟩
 |iA hl h=>exact .iA hl fun i c v hc hv=>(h i c v hc hv).mono hx.cu
 |bI hc hj hk hv =>
  obtain ⟨cs,hc⟩:=hc
  obtain ⟨h1,bx,h2,h3⟩:=hx.fix _ _ hc rfl
  obtain ⟨cs',rfl⟩:=sZ h3
  obtain ⟨vs,fr,hk⟩:=hk
  obtain ⟨vs2,fr2,hk2,_⟩:=hx.tags _ _ _ _ hk
  exact .bI ⟨_,h2⟩ (h1.trans hj) ⟨vs2,fr2,hk2⟩ hv
 |dI hc hj =>
  obtain ⟨cs,hc⟩:=hc
  obtain ⟨h1,bx,h2,h3⟩:=hx.fix _ _ hc rfl
  obtain ⟨cs',rfl⟩:=sZ h3
  exact .dI ⟨_,h2⟩ (h1.trans hj)
 |cA hk hn h ht =>
  obtain ⟨n',h1,h2,h3⟩:=hx.tick _ _ _ hk
  refine .cA h2 (by omega) (h.mono hx.cu) (fun he=>?_)
  have:n'=_:=Nat.le_antisymm (by omega) h1
  obtain ⟨h4,h5⟩:=h3 this
  subst this
  exact (ht he).mono h4 h5
 |any v=>exact .any v
def Holds.mono {b:Nat} {bx:aK} (hx:Ext j M w j' M' w') (hb:w'.heap[b]?=w.heap[b]?) (h:Holds j M w b bx):Holds j' M' w' b bx:=by
 cases bx with
 |cells cs =>
  obtain ⟨vs,t,h1,h2,h3⟩:=h
  exact ⟨vs,t,hb.trans h1,h2,fun i c v hc hv=>(h3 i c v hc hv).mono hx⟩
 |tick=>trivial
 |map ks vs =>
  obtain ⟨es,clock,h1,h2,h3,h4,h5⟩:=h
  exact ⟨es,clock,hb.trans h1,h2,h3,fun i k e hk he=>(h4 i k e hk he).mono hx.cu,fun i k e hk he=>(h5 i k e hk he).mono hx⟩
 |fB s pos=>exact hb.trans h
 |arr=>trivial
 |mO=>trivial
def Holds.lt {b:Nat} {bx:aK} (h:Holds j M w b bx) (hf:bx.fixed=true):∃o,w.heap[b]?=some o:=by
 cases bx with
 |cells cs=>obtain ⟨vs,t,h1,_⟩:=h; exact ⟨_,h1⟩
 |tick=>cases hf
 |map ks vs=>obtain ⟨es,clock,h1,_⟩:=h; exact ⟨_,h1⟩
 |fB s pos=>exact ⟨_,h⟩
 |arr=>cases hf
 |mO=>cases hf
def Ext.refl (j:J) (M:ag) (w:World):Ext j M w j M w where
 len:=Nat.le_refl _
 size:=Nat.le_refl _
 os:=rfl
 tape:=rfl
 output:=rfl
 X:=rfl
 fix:=fun i bx h _=>⟨rfl,bx,h,rfl⟩
 tick:=fun i sz n h=>⟨n,Nat.le_refl _,h,fun _=>⟨rfl,fun b vs t _ h=>⟨vs,h,rfl⟩⟩⟩
 arr:=fun i sz v xs h => .inr ⟨v,xs,h,Nat.le_refl _,fun _=>⟨rfl,rfl,fun b vs t _ h=>⟨vs,h,rfl⟩⟩⟩
 tags:=fun b vs t fr h=>⟨vs,fr,h,rfl⟩
 cu:=fun b off h=>⟨h,rfl⟩
 mP:=fun b hb h=>⟨rfl,h⟩
def Ext.trans (h:Ext j M w j' M' w') (k:Ext j' M' w' j'' M'' w''):Ext j M w j'' M'' w'' where
 len:=Nat.le_trans h.len k.len
 size:=Nat.le_trans h.size k.size
 os:=k.os.trans h.os
 tape:=k.tape.trans h.tape
 output:=k.output.trans h.output
 X:=k.X.trans h.X
 fix:=fun i bx hi hf=>by
  obtain ⟨h1,bx',h2,h3⟩:=h.fix i bx hi hf
  have hf':bx'.fixed=true:=tb h3 hf
  obtain ⟨h4,bx'',h5,h6⟩:=k.fix i bx' h2 hf'
  exact ⟨h4.trans h1,bx'',h5,h6.trans h3⟩
 tick:=fun i sz n hi=>by
  obtain ⟨n1,a1,a2,a3⟩:=h.tick i sz n hi
  obtain ⟨n2,b1,b2,b3⟩:=k.tick i sz n1 a2
  refine ⟨n2,by omega,b2,fun he=>?_⟩
  obtain ⟨c1,c2⟩:=a3 (by omega)
  obtain ⟨d1,d2⟩:=b3 (by omega)
  refine ⟨d1.trans c1,fun b vs t hb hv=>?_⟩
  obtain ⟨vs',e1,e2⟩:=c2 b vs t hb hv
  obtain ⟨vs'',f1,f2⟩:=d2 b vs' t (c1.trans hb) e1
  exact ⟨vs'',f1,by omega⟩
 arr:=fun i sz v xs hi=>by
  rcases h.arr i sz v xs hi with ⟨n1,a1⟩|⟨v1,xs1,a1,a2,a3⟩
  ·obtain ⟨n2,_,b2,_⟩:=k.tick i sz n1 a1
   exact .inl ⟨n2,b2⟩
  ·rcases k.arr i sz v1 xs1 a1 with ⟨n2,b1⟩|⟨v2,xs2,b1,b2,b3⟩
   ·exact .inl ⟨n2,b1⟩
   ·refine .inr ⟨v2,xs2,b1,by omega,fun he=>?_⟩
    obtain ⟨c1,c2,c3⟩:=a3 (by omega)
    obtain ⟨d1,d2,d3⟩:=b3 (by omega)
    refine ⟨d1.trans c1,by omega,fun b vs t hb hv=>?_⟩
    obtain ⟨vs',e1,e2⟩:=c3 b vs t hb hv
    obtain ⟨vs'',f1,f2⟩:=d3 b vs' t (c1.trans hb) e1
    exact ⟨vs'',f1,by omega⟩
 tags:=fun b vs t fr hb=>by
  obtain ⟨vs1,fr1,h1,h2⟩:=h.tags b vs t fr hb
  obtain ⟨vs2,fr2,h3,h4⟩:=k.tags b vs1 t fr1 h1
  exact ⟨vs2,fr2,h3,h4.trans h2⟩
 cu:=fun b off hs=>by
  obtain ⟨h1,h2⟩:=h.cu b off hs
  obtain ⟨h3,h4⟩:=k.cu b off h1
  exact ⟨h3,h4.trans h2⟩
 mP:=fun b hb hn=>by
  obtain ⟨h1,h2⟩:=h.mP b hb hn
  obtain ⟨h3,h4⟩:=k.mP b (Nat.lt_of_lt_of_le hb h.size) h2
  exact ⟨h3.trans h1,h4⟩
def Ext.grow (hsz:w.heap.size<=w'.heap.size) (hos:w'.os=w.os) (ht:w'.tape=w.tape) (ho:w'.output=w.output)
  (hb:∀b,b<w.heap.size->w'.heap[b]?=w.heap[b]?):Ext j M w j M w' where
 len:=Nat.le_refl _
 size:=hsz
 os:=hos
 tape:=ht
 output:=ho
 X:=rfl
 fix:=fun i bx h _=>⟨rfl,bx,h,rfl⟩
 tick:=fun i sz n h=>⟨n,Nat.le_refl _,h,fun _=>⟨rfl,fun b vs t _ hv=>by
  have hlt:b<w.heap.size:=by
   rcases Nat.lt_or_ge b w.heap.size with h|h
   ·exact h
   ·rw [Array.getElem?_eq_none h] at hv; cases hv
  exact ⟨vs,(hb b hlt).trans hv,rfl⟩⟩⟩
 arr:=fun i sz v xs h => .inr ⟨v,xs,h,Nat.le_refl _,fun _=>⟨rfl,rfl,fun b vs t _ hv=>by
  have hlt:b<w.heap.size:=by
   rcases Nat.lt_or_ge b w.heap.size with h|h
   ·exact h
   ·rw [Array.getElem?_eq_none h] at hv; cases hv
  exact ⟨vs,(hb b hlt).trans hv,rfl⟩⟩⟩
 tags:=fun b vs t fr h=>by
  have hlt:b<w.heap.size:=by
   rcases Nat.lt_or_ge b w.heap.size with h'|h'
   ·exact h'
   ·rw [Array.getElem?_eq_none h'] at h; cases h
  exact ⟨vs,fr,(hb b hlt).trans h,rfl⟩
 cu:=fun b off h=>⟨⟨Nat.lt_of_lt_of_le h.1 hsz,h.2,h.3⟩,World.cell?_of_block (w:=w) (hb b h.1)⟩
 mP:=fun b hlt h=>⟨hb b hlt,h⟩
def Rel.grow (hr:Rel j M w) (hsz:w.heap.size<=w'.heap.size) (hos:w'.os=w.os) (ht:w'.tape=w.tape) (ho:w'.output=w.output)
  (hb:∀b,b<w.heap.size->w'.heap[b]?=w.heap[b]?):Rel j M w' where
 inj:=hr.inj
 lt:=fun i b hi h=>Nat.lt_of_lt_of_le (hr.lt i b hi h) hsz
 fix:=fun i bx h hf=>by
  obtain ⟨b,h1,h2⟩:=hr.fix i bx h hf
  have hi:i<M.length:=(List.getElem?_eq_some_iff.1 h).1
  exact ⟨b,h1,h2.mono (Ext.grow hsz hos ht ho hb) (hb b (hr.lt i b hi h1))⟩
 tick:=fun i sz n b h hj=>by
  obtain ⟨vs,t,h1⟩:=hr.tick i sz n b h hj
  have hi:i<M.length:=(List.getElem?_eq_some_iff.1 h).1
  exact ⟨vs,t,(hb b (hr.lt i b hi hj)).trans h1⟩
 arr:=fun i sz v xs h=>by
  rcases hr.arr i sz v xs h with he|⟨b,vs,t,h1,h2,h3,h4,h5⟩
  ·exact .inl he
  have hi:i<M.length:=(List.getElem?_eq_some_iff.1 h).1
  refine .inr ⟨b,vs,t,h1,(hb b (hr.lt i b hi h1)).trans h2,h3,h4,fun q x k c hx hk=>?_⟩
  obtain ⟨u,h6,h7⟩:=h5 q x k c hx hk
  exact ⟨u,h6,h7.mono (Ext.grow (j:=j) (M:=M) hsz hos ht ho hb).cu⟩
 lY:=hr.lY
 qo:=fun b off h=>Nat.lt_of_lt_of_le (hr.qo b off h) hsz
end
class dQ where
 g:Nat->Option (List Value)
 q:Nat->Option (Value->Prop):=fun _=>none
 u8:Nat:=0
structure j4 [dQ] (j:J) (M:ag) (w:World):Prop where
 g:∀b vs k v,dQ.g b=some vs->vs[k]?=some v->fJ j M w b k/\w.cell? ⟨b,k,none⟩=some v
 n:∀b vs,dQ.g b=some vs->∃us t fr,w.heap[b]?=some (.cells us t fr)/\us.size=vs.length
 q:∀b p,dQ.q b=some p->∃v,p v/\fJ j M w b 0/\w.cell? ⟨b,0,none⟩=some v
def j4.cu [dQ] {j j':J} {M M':ag} {w:World} (h:j4 j M w) (hx:∀b off,fJ j M w b off->fJ j' M' w b off):j4 j' M' w where
 g:=fun b vs k v hb hk=>⟨hx _ _ (h.g b vs k v hb hk).1,(h.g b vs k v hb hk).2⟩
 n:=h.n
 q:=fun b p hb=>by
  obtain ⟨v,h0,h1,h2⟩:=h.q b p hb
  exact ⟨v,h0,hx _ _ h1,h2⟩
def j4.mono [dQ] {j j':J} {M M':ag} {w w':World} (h:j4 j M w) (hx:Ext j M w j' M' w'):j4 j' M' w' where
 g:=fun b vs k v hb hk=>by
  obtain ⟨h1,h2⟩:=h.g b vs k v hb hk
  obtain ⟨h3,h4⟩:=hx.cu _ _ h1
  exact ⟨h3,h4.trans h2⟩
 n:=fun b vs hb=>by
  obtain ⟨us,t,fr,h1,h2⟩:=h.n b vs hb
  obtain ⟨us',fr',h3,h4⟩:=hx.tags b us t fr h1
  exact ⟨us',t,fr',h3,h4.trans h2⟩
 q:=fun b p hb=>by
  obtain ⟨v,h0,h1,h2⟩:=h.q b p hb
  obtain ⟨h3,h4⟩:=hx.cu _ _ h1
  exact ⟨v,h0,h3,h4.trans h2⟩
variable [dQ]
structure aL (j:J) (M:ag) (w:World) (env:Env) (a:Act):Prop where
 at':∀t,bQ j M w (cL env t) (a.tmps.getD t undef)
 gl:j4 j M w
def aL.mono {j j':J} {M M':ag} {w w':World} {env:Env} {a:Act} (h:aL j M w env a) (hx:Ext j M w j' M' w'):aL j' M' w' env a :=
 ⟨fun t=>(h.at' t).mono hx,h.gl.mono hx⟩
def aL.put {j:J} {M:ag} {w:World} {env:Env} {a:Act} {n:Nat} (h:aL j M w env a) (hs:a.tmps.size=n) {dst:Option Nat} (hd:∀d,dst=some d->d<n)
  {x:ae} {v:Value} (hv:bQ j M w x v):aL j M w (hV env dst x) (a.put dst v):=by
 refine ⟨fun t=>?_,h.gl⟩
 cases dst with
 |none=>exact h.at' t
 |some d =>
  have hd':=hd d rfl
  simp only [hV,cL,Act.put]
  by_cases he:d=t
  ·subst he
   rw [if_pos rfl]
   simpa [Array.getD_eq_getD_getElem?,Array.getElem?_setIfInBounds_self,hs,hd'] using hv
  ·rw [if_neg he]
   have:=h.at' t
   simpa [Array.getD_eq_getD_getElem?,Array.getElem?_setIfInBounds_ne he] using this
def pY (env:Env) (live:List Nat) (t:Nat):cL (fI env live) t=if t∈live then cL env t else .any:=by
 induction live with
 |nil=>simp [fI,cL]
 |cons l r ih =>
  simp only [fI,List.map_cons,cL] at *
  by_cases h:l=t
  ·subst h; simp
  ·rw [if_neg h,ih]
   have:(t∈l::r)↔t∈r:=by simp [Ne.symm h]
   simp only [this]
def aL.iM {j:J} {M:ag} {w:World} {env:Env} {a:Act} (h:aL j M w env a) (live:List Nat):aL j M w (fI env live) a:=by
 refine ⟨fun t=>?_,h.gl⟩
 rw [pY]
 split
 ·exact h.at' t
 ·exact .any _
end
section
open Go
def zm:Value->Option ae
 | .bool b=>some (.bool b)
 | .int k n=>some (.int k n)
 | .string s=>some (.str s.data.toList)
 | .slice none 0 0=>some (.slice .c0 [])
 | .pointer none=>some (.raw (.pointer none))
 | .nilFunc=>some (.raw .nilFunc)
 | .nilIface=>some (.raw .nilIface)
 | .map none=>some (.raw (.map none))
 |_=>none
def jL:List Value->Option (List ae)
 | []=>some []
 |v::r=>(zm v).bind fun x=>(jL r).bind fun l=>some (x::l)
def Gz:Value->Option ae
 | .agg vs=>(jL vs.toList).bind fun l=>some (.agg l)
 |v=>zm v
def Pf:Value->Option ae
 | .bool b=>some (.bool b)
 | .int k n=>some (.int k n)
 | .string s=>some (.str s.data.toList)
 | .pointer none=>some (.raw (.pointer none))
 | .nilIface=>some (.raw .nilIface)
 |_=>none
def Gy:List Value->Option (List ae)
 | []=>some []
 |v::r=>(Pf v).bind fun x=>(Gy r).bind fun l=>some (x::l)
variable [dQ]
def bo:Operand->Option cj
 | .tmp t=>some (.tmp t)
 | .const v=>(Gz v).bind fun x=>some (.dX x)
 | .func f=>some (.dX (.func f []))
 | .global g=>(dQ.g g).bind fun vs=>(Gy vs).bind fun l=>some (.dX (.cW l))
def GH:Operand->Option cj
 | .func f=>some (.dX (.raw (.func (.func f) ⟨[]⟩ ⟨[]⟩)))
 |x=>bo x
def oU (n:Nat):List (Nat×Operand)->Option (List (Nat×Nat×cj))
 | []=>some []
 |(i,x)::r=>(bo x).bind fun y=>(oU n r).bind fun l=>some ((i*n,n,y)::l)
def mb:List Operand->Option (List cj)
 | []=>some []
 |x::r=>(bo x).bind fun y=>(mb r).bind fun l=>some (y::l)
def rX:Option Operand->Option (Option cj)
 |none=>some none
 |some x=>(bo x).bind fun y=>some (some y)
def hZ (P:Program) (t:TypeId):Option Nat:=(P.info? t).bind fun i=>some i.size
def qu (P:Program) (t:TypeId):Option Bool:=(P.underlying t).bind fun d=>some (match d with | .struct _ | .array _ _=>true|_=>false)
def rY (P:Program) (fs:Array Field):List (Nat×Operand)->Option (List (Nat×Nat×cj))
 | []=>some []
 |(i,x)::r=>(fs[i]?).bind fun f=>(hZ P f.type).bind fun n=>(bo x).bind fun y=>(rY P fs r).bind fun l=>some ((f.offset,n,y)::l)
def zB:Nat->List (Nat×Operand)->Option (List cj)
 |_,[]=>some []
 |k,(i,x)::r=>if i=k then (bo x).bind fun y=>(zB (k+1) r).bind fun l=>some (y::l) else none
def G6 (P:Program) (f:Field):Option FK:=if f.name = "_" then none else match P.underlying f.type with
 |some .bool=>some .b
 |some (.int _)=>some .i
 |some .string=>some .s
 |_=>none
def tC (P:Program):Nat->List Field->Option (List FK)
 |_,[]=>some []
 |k,f::r=>if f.offset=k then (G6 P f).bind fun x=>(tC P (k+1) r).bind fun l=>some (x::l) else none
def vq (P:Program) (t:TypeId):Option FK:=match P.underlying t with
 |some .bool=>some .b
 |some (.int _)=>some .i
 |some .string=>some .s
 |_=>none
def EB:BinOp->Option Ef
 | .and=>some .and | .or=>some .or | .xor=>some .xor
 | .add=>some .add | .sub=>some .sub | .mul=>some .mul | .quo=>some .quo | .rem=>some .rem
 | .eql=>some .eql | .neq=>some .neq | .lss=>some .lss | .leq=>some .leq | .gtr=>some .gtr | .geq=>some .geq
 | .shl=>some .shl | .shr=>some .shr
 |_=>none
def fu (P:Program) (f:Nat):Bool:=match P.funcs[f]? with|some fn=>fn.name != "runtime.NumGoroutine" && fn.body.isSome|none=>false
def GG (P:Program) (own:List Nat) (type:TypeId) (c:Call):Option dS :=
 match c.callee with
 | .value (.func f)=>if fu P f then (mb c.args.toList).bind fun l=>some (if own.contains (1000000+f) then .tn f l else if own.contains (2000000+f) then .eh f l else if own.contains (8000000+f) then .nq f l else .call f l) else none
 | .value (.tmp t)=>(mb c.args.toList).bind fun l=>some (.nr (.tmp t) l)
 | .builtin .len=>match c.args.toList,(c.argTypes[0]?).bind P.underlying with
  | [x],some .string=>(bo x).bind fun y=>some (.Fm y)
  | [x],some (.slice _)=>(bo x).bind fun y=>some (.vr y)
  | [x],some (.map _ _)=>(bo x).bind fun y=>some (.Fl y)
  |_,_=>none
 | .builtin .copy=>match c.args.toList,c.argTypes.toList with
  | [x,y],[t,t']=>match P.underlying t,P.underlying t' with
   |some (.slice e),some (.slice _)=>(hZ P e).bind fun n=>(bo x).bind fun x=>(bo y).bind fun y=>if 0<n then some (.wL n x y) else none
   |_,_=>none
  |_,_=>none
 | .builtin .append=>match c.args.toList,c.argTypes.toList with
  | [x,y],[t,t']=>match P.underlying t,P.underlying t' with
   |some (.slice e),some (.int _)=>(P.info? e).bind fun i=>i.zero.bind fun z=>(jL z.cells.toList).bind fun l=>(bo x).bind fun x=>(bo y).bind fun y =>
    if l.length=i.size/\0<i.size/\0<i.bytes/\i.bytes<=2 ^ 20 then some (.oO i.size i.bytes (l.map ae.shut) x y) else none
   |some (.slice e),some .string=>(P.info? e).bind fun i=>(bo x).bind fun x=>(bo y).bind fun y =>
    if own.contains 4000000&&decide ((i.zero.map fun z=>z.cells.size)=some i.size)&&decide (i.size=1)&&decide (i.bytes=1) then some (.lr e x y) else none
   |some (.slice e),some (.slice _)=>(P.info? e).bind fun i=>(bo x).bind fun x=>(bo y).bind fun y =>
    if own.contains 4000000 then (if decide ((i.zero.map fun z=>z.cells.size)=some i.size)&&decide (i.size=1)&&decide (i.bytes=1) then some (.kc e x y) else none)
    else if decide ((i.zero.map fun z=>z.cells.size)=some i.size)&&decide (0<i.size)&&decide (0<i.bytes)&&decide (i.bytes<=2 ^ 20) then some (.append i.size i.bytes x y) else none
   |_,_=>none
  |_,_=>none
 | .builtin .clear=>match c.args.toList,c.argTypes.toList with
  | [x],[t]=>match P.underlying t with
   |some (.slice e)=>(P.info? e).bind fun i=>i.zero.bind fun z=>(jL z.cells.toList).bind fun l=>(bo x).bind fun x =>
    if l.length=i.size/\0<i.size then some (.rZ i.size (l.map ae.shut) x) else none
   |_=>none
  |_,_=>none
 | .builtin .max=>match c.args.toList with|[x,y]=>(bo x).bind fun x=>(bo y).bind fun y=>some (.qe true x y)|_=>none
 | .builtin .min=>match c.args.toList with|[x,y]=>(bo x).bind fun x=>(bo y).bind fun y=>some (.qe false x y)|_=>none
 |_=>none
def Gk (P:Program) (own:List Nat) (o:Oper):Option dS :=
 match o.op with
 | .move x=>(bo x).bind fun x=>some (.mv x)
 | .assign x=>(bo x).bind fun x =>
  match o.dst with
  |some d=>if own.contains d then match P.underlying o.type with
    |some (.slice e)=>(hZ P e).bind fun n=>match x with
     | .dX (.slice .c0 [])=>some (.own n x)
     |_=>some (.mv x)
    |_=>none
   else some (.mv x)
  |none=>some (.mv x)
 | .pick c a b=>(bo c).bind fun c=>(bo a).bind fun a=>(bo b).bind fun b=>some (.pick c a b)
 | .alloc t=>(P.info? t).bind fun i=>i.zero.bind fun z=>(jL z.cells.toList).bind fun l =>
  match o.dst with
  |some d=>if own.contains (3000000+d) then some (.BK t dQ.u8 l) else if own.contains (6000000+d) then (match P.underlying t,l with
    |some (.slice e),[.slice .c0 []]=>(hZ P e).bind fun n=>some (.Ey n)
    |_,_=>none) else some (.ib l)
  |none=>some (.ib l)
 | .box t x=>(bo x).bind fun x=>match o.dst with
  |some d=>if own.contains (3000000+d) then some (.BL t dQ.u8 x) else some (.box x)
  |none=>some (.box x)
 | .build t parts=>match P.underlying t with
  |some (.struct fs)=>(P.info? t).bind fun i=>i.zero.bind fun z=>(jL z.cells.toList).bind fun l=>(rY P fs parts.toList).bind fun ps =>
   if fs.all (fun f=>(P.info? f.type).isSome) then some (.build l ps) else none
  |some (.array _ e)=>(P.info? t).bind fun i=>i.zero.bind fun z=>(jL z.cells.toList).bind fun l=>(hZ P e).bind fun n=>(oU n parts.toList).bind fun ps=>some (.build l ps)
  |_=>none
 | .buildSlice t len parts=>match P.underlying t with
  |some (.slice e)=>(P.info? e).bind fun i=>(zB 0 parts.toList).bind fun l =>
   if l.length=len/\len*i.size<=2 ^ 24/\(i.zero.map fun z=>z.cells.size)=some i.size/\0<i.size then some (match o.dst with|some d=>if own.contains d then .vt i.size l else .lits i.size l|none => .lits i.size l) else none
  |_=>none
 | .load t x=>(qu P t).bind fun g=>(hZ P t).bind fun n=>(bo x).bind fun x=>some (if g then .eG n x else .cB x)
 | .store t a x=>(hZ P t).bind fun n=>(bo a).bind fun a=>(bo x).bind fun x=>some (match a with
  | .tmp s=>match own.find? (fun m=>decide (1000000000<=m)&&decide (m % 1000=s)) with
   |some m => .sW (m / 1000000 % 1000) (m / 1000 % 1000) n a x
   |none => .store n a x
  |_ => .store n a x)
 | .nilCheck x=>(bo x).bind fun x=>some (.MH x)
 | .binOp op t x y _=>(bo x).bind fun x=>(bo y).bind fun y=>match P.underlying t with
  |some (.int _)|some .string=>(EB op).bind fun b=>some (.bin b x y)
  |some .bool=>match op with
   | .eql=>some (.QY false x y)
   | .neq=>some (.QY true x y)
   |_=>none
  |some (.struct fs)=>if P.stoodInHeld t then none else (tC P 0 fs.toList).bind fun ks=>match op with
   | .eql=>some (.MS ks false x y)
   | .neq=>some (.MS ks true x y)
   |_=>none
  |some (.array len e)=>match P.underlying e,op with
   |some (.int _),.eql=>if hZ P e=some 1 then some (.MS (List.replicate len .i) false x y) else none
   |_,_=>none
  |_=>none
 | .unOp .not _ x=>(bo x).bind fun x=>some (.not x)
 | .unOp .neg _ x=>(bo x).bind fun x=>some (.neg x)
 | .convert s d x=>(bo x).bind fun x=>match P.underlying s,P.underlying d with
  |some (.int _),some (.int k)=>some (.conv k x)
  |some .string,some .string=>some (.same x)
  |some (.slice e),some .string=>match P.underlying e with|some (.int .u8)=>some (.T1 x)|_=>none
  |some .string,some (.slice e)=>match P.underlying e with|some (.int .u8)=>some (.T7 x)|_=>none
  |_,_=>none
 | .makeFunc (.func f) first caps=>if first.isEmpty then (mb caps.toList).bind fun l=>some (.fn f l) else if caps.isEmpty then (mb first.toList).bind fun l=>some (.uN f l) else none
 | .slice t x lo hi mx=>(bo x).bind fun x=>(rX lo).bind fun lo=>(rX hi).bind fun hi=>(rX mx).bind fun mx=>match P.underlying t with
  |some .string=>if mx.isNone then some (.oB x lo hi) else none
  |some (.slice e)=>(hZ P e).bind fun n=>if 0<n/\(mx.isNone\/hi.isSome) then some (.qh n x lo hi mx) else none
  |_=>none
 | .fieldAddr s x f=>match P.underlying s with
  |some (.struct fs)=>(fs[f]?).bind fun f=>(hZ P f.type).bind fun n=>(bo x).bind fun x=>if 0<n then some (.cX f.offset x) else none
  |_=>none
 | .field s x f=>match P.underlying s with
  |some (.struct fs)=>(fs[f]?).bind fun f=>(qu P f.type).bind fun g=>(hZ P f.type).bind fun n=>(bo x).bind fun x=>some (if g then .se f.offset n x else .sd f.offset x)
  |_=>none
 | .indexAddr t x i=>match P.underlying t with
  |some (.slice e)=>(hZ P e).bind fun n=>(bo x).bind fun x=>(bo i).bind fun i=>if 0<n then some (.mq n x i) else none
  |some (.array len e)=>(hZ P e).bind fun n=>(bo x).bind fun x=>(bo i).bind fun i=>if 0<n then some (.nW len n x i) else none
  |_=>none
 | .index t x i=>match P.underlying t with
  |some .string=>(bo x).bind fun x=>(bo i).bind fun i=>some (.nZ x i)
  |some (.array len e)=>if hZ P e=some 1/\qu P e=some false then (bo x).bind fun x=>(bo i).bind fun i=>some (.nY len x i) else none
  |_=>none
 | .extract x i=>(bo x).bind fun x=>some (.extract x i)
 | .call c=>GG P own o.type c
 | .makeMap _ none=>some .mkMap
 | .lookup t x i ok=>match P.underlying t with
  |some (.map k e)=>(vq P k).bind fun fk=>(P.info? e).bind fun ie=>ie.zero.bind fun zv=>(Gz zv).bind fun z=>(bo x).bind fun x=>(bo i).bind fun i=>some (.look fk z ok x i)
  |_=>none
 | .mapUpdate t m k v=>match P.underlying t with
  |some (.map kt _)=>(vq P kt).bind fun fk=>(bo m).bind fun m=>(bo k).bind fun k=>(bo v).bind fun v=>some (.bX fk m k v)
  |_=>none
 | .range t x=>match P.underlying t with
  |some .string=>(bo x).bind fun x=>some (.FY x)
  |_=>none
 | .next it true=>(bo it).bind fun it=>some (.xz it)
 | .makeInterface t x=>(bo x).bind fun x=>match P.underlying t with
  |some (.interface _)=>none
  |some _=>some (.iface t x)
  |none=>none
 | .panic x=>(bo x).bind fun x=>some (.raise x)
 | .insert t m k v=>match P.underlying t with
  |some (.map kt _)=>(vq P kt).bind fun fk=>(bo m).bind fun m=>(bo k).bind fun k=>(GH v).bind fun v=>some (.bX fk m k v)
  |_=>none
 | .makeSlice t (.tmp x) (.tmp y)=>match P.underlying t with
  |some (.slice e)=>(P.info? e).bind fun i=>i.zero.bind fun z=>(jL z.cells.toList).bind fun l=>(bo (.tmp x)).bind fun x' =>
   if x=y/\l.length=i.size/\0<i.size/\i.bytes<=8*i.size then some (match o.dst with|some d=>if own.contains (5000000+d) then .Fw (l.map ae.shut) x' else .SO (l.map ae.shut) x'|none => .SO (l.map ae.shut) x') else none
  |_=>none
 |_=>none
structure we where
 n:Nat
 own:List Nat:=[]
 lv:List (Nat×List Nat)
 lp:List (Nat×List Nat):=[]
def find (l:List (Nat×List Nat)) (k:Nat):List Nat:=match l with
 | []=>[]
 |(i,x)::r=>if i=k then x else find r k
def Pr (n:Nat):Option Nat->Bool
 |some d=>decide (d<n)
 |none=>true
def zz (P:Program) (A:we) (ops:Array Oper) (grow:Bool) (o:Oper):Option aR :=
 (Gk P A.own o).bind fun op =>
  if Pr A.n o.dst then
   match o.guard with
   |none=>some { dst:=o.dst,op,guard:=none,grow }
   |some (k,want)=>((ops[k]?).bind (·.dst)).bind fun t=>if t<A.n then some { dst:=o.dst,op,guard:=some (t,want),grow } else none
  else none
def j5 (P:Program) (A:we) (ops:Array Oper) (grow:List Bool):List Oper->Option (List aR)
 | []=>some []
 |o::r=>(zz P A ops (grow.headD false) o).bind fun x=>(j5 P A ops grow.tail r).bind fun l=>some (x::l)
def fW:Code->Nat
 | .region id _ _=>id
 | .seq a _=>fW a
 | .block _ c=>fW c
 | .loop c=>fW c
 | .cond _ a _=>fW a
 |_=>0
def cj.eH:cj->List Nat
 | .tmp t=>[t]
 | .dX _=>[]
def sJ:Option cj->List Nat
 |some x=>x.eH
 |none=>[]
def dS.eH:dS->List Nat
 | .mv x | .own _ x | .box x | .eG _ x | .cB x | .MH x | .not x | .neg x | .conv _ x | .same x | .cX _ x | .se _ _ x | .sd _ x | .extract x _ | .Fm x | .vr x | .T1 x | .Fl x | .FY x | .xz x | .rZ _ _ x | .T7 x | .BL _ _ x | .iface _ x | .raise x | .SO _ x | .Fw _ x=>x.eH
 | .pick c a b=>c.eH++(a.eH++b.eH)
 | .ib _ | .mkMap | .BK .. | .Ey _=>[]
 | .build _ ps=>ps.flatMap fun p=>p.2.2.eH
 | .lits _ ps | .vt _ ps=>ps.flatMap cj.eH
 | .store _ a x | .sW _ _ _ a x=>a.eH++x.eH
 | .bX _ m k v=>m.eH++(k.eH++v.eH)
 | .bin _ x y | .look _ _ _ x y | .MS _ _ x y | .QY _ x y | .mq _ x y | .nW _ _ x y | .nY _ x y | .nZ x y | .append _ _ x y | .lr _ x y | .kc _ x y | .qe _ x y | .oO _ _ _ x y | .wL _ x y=>x.eH++y.eH
 | .fn _ l | .uN _ l=>l.flatMap cj.eH
 | .oB x l h=>x.eH++(sJ l++sJ h)
 | .qh _ x l h m=>x.eH++(sJ l++(sJ h++sJ m))
 | .call _ l | .tn _ l | .eh _ l | .nq _ l=>l.flatMap cj.eH
 | .nr f l=>f.eH++l.flatMap cj.eH
def dS.IM:dS->Bool
 | .own .. | .vt .. | .Fw .. | .oO .. | .wL .. | .Ey _ | .ib _ | .BK .. | .BL .. | .lr .. | .kc .. | .box _ | .store .. | .sW .. | .call .. | .nr .. | .tn .. | .eh .. | .nq .. | .rZ .. | .append .. | .mkMap | .bX .. | .Fl _ | .FY _ | .xz _=>true
 |_=>false
def dS.Gl:dS->Bool
 | .eG .. | .cB _ | .look .. => true
 |_=>false
def aR.reads (o:aR):List Nat:=o.op.eH++(match o.guard with|some (t,_)=>[t]|none=>[])
def lU (acc:List Nat):List Edge->Nat
 | []=>0
 |e::r=>if Region.binds .any e then lU acc r ||| (2 ^ e.on ||| (nth acc e.on).getD 0) else lU acc r
def qO:List Oper->List Nat->List Nat
 | [],acc=>acc
 |o::r,acc=>qO r (acc++[lU acc o.after.toList])
def iK (ops:List Oper):List Nat:=qO ops []
def ahead (bs:List Nat) (i k:Nat):Bool:=((nth bs k).getD 0).testBit i
def meet (x y:aR):Bool :=
 (match x.dst with|some d=>y.reads.contains d||y.dst==some d|none=>false)||(match y.dst with|some d=>x.reads.contains d|none=>false)
def fenced (bs:List Nat) (l:List aR) (k:Nat):Bool:=(List.range l.length).all fun i=>match nth l i with
 |some x => !x.op.Gl||(if i<k then ahead bs i k else i==k||ahead bs k i)
 |none=>true
def dS.oa:dS->Bool
 | .call .. | .nr .. => true
 |_=>false
def ordered (bs:List Nat) (i k:Nat):Bool:=i==k||(if i<k then ahead bs i k else ahead bs k i)
def alone (bs:List Nat) (l:List aR) (k:Nat):Bool:=(List.range l.length).any fun i=>match nth l i with
 |some x=>x.op.IM && !ordered bs i k
 |none=>false
def dS.D6:dS->Option Nat
 | .cB (.tmp z)=>some z
 | .eG _ (.tmp z)=>some z
 | .look _ _ _ (.tmp z) _=>some z
 |_=>none
def dS.acq:dS->Bool
 | .store .. => true
 | .append .. => true
 | .lr .. | .kc .. => true
 |_=>false
def Xx (l:List aR) (i k z:Nat):Bool:=(List.range k).all fun p=>decide (p<i)||match nth l p with|some x=>x.dst != some z|none=>true
def CX (bs:List Nat) (l:List aR) (k:Nat):Bool:=(List.range l.length).all fun i=>i==k||(if i<k then (ahead bs i k||match nth l i with|some x => !x.op.IM|none=>false) else ahead bs k i)
def D5 (bs:List Nat) (l:List aR) (k:Nat):List Nat:=(List.range k).filterMap fun i=>match nth l i with
 |some x=>if x.op.Gl && !ahead bs i k then x.op.D6 else none
 |none=>none
def uz (bs:List Nat) (l:List aR) (k:Nat) (sep:List Nat):Bool:=(List.range l.length).all fun i=>match nth l i with
 |some x => !x.op.Gl||i==k||(if i<k then (ahead bs i k||match x.op.D6 with|some z=>sep.contains z&&Xx l i k z|none=>false) else ahead bs k i)
 |none=>true
def gX (bs:List Nat) (l:List aR):Nat->List aR->List aR
 |_,[]=>[]
 |k,x::r=>{ x with grow:=x.op.IM && !(x.op.oa&&alone bs l k) && !fenced bs l k,nz:=x.op.oa&&alone bs l k,sep:=if x.op.acq && !fenced bs l k&&uz bs l k (D5 bs l k) then D5 bs l k else [],stop := !x.op.GI||CX bs l k }::gX bs l (k+1) r
def aR.lh (x:aR):Bool:=x.op.IM && !x.nz
def CH:dS->Bool
 | .cB (.dX _) | .eG _ (.dX _) | .look _ _ _ (.dX _) _=>false
 |_=>true
def tE (ops:Array Oper) (l:List aR) (k:Nat):Bool:=match ops[k]?,nth l k with
 |some o,some y=>(match y.op with
  | .ib _=>(match o.op with | .alloc _=>true|_=>false)
  | .nq .. => (match o.op with | .call c=>(match c.callee with | .value (.func _)=>true|_=>false)|_=>false)
  |_=>false)&&y.guard.isNone
 |_,_=>false
def yH (ops:Array Oper) (bs:List Nat) (l:List aR):Bool:=(List.range l.length).all fun k=>match nth l k,ops[k]? with
 |some y,some o=>o.after.toList.all (fun e => !Region.binds .any e||decide (e.on<k))&&((!y.nz||y.op.oa)&&CH y.op)&&((!(y.lh && !y.grow)||fenced bs l k)&&(y.sep.isEmpty||uz bs l k y.sep)) &&
  ((!y.lets||CX bs l k)&&(List.range k).all fun i=>match nth l i with
   |some x=>(!meet x y||ahead bs i k)&&(!(x.lh&&y.lh)||(ahead bs i k||(tE ops l i&&tE ops l k)))
   |none=>false)
 |_,_=>false
def sI (ops:Array Oper) (l:List aR):Option (List aR) :=
 if yH ops (iK ops.toList) (gX (iK ops.toList) l 0 l) then some (gX (iK ops.toList) l 0 l) else none
def comp (P:Program) (A:we):Code->Option aO
 | .skip=>some .skip
 | .region id ops draw=>if draw then
   (j5 P { A with own:=A.own.filter (1000000 <= ·) } ops [] ops.toList).bind fun l0=>(sI ops l0).bind fun l=>some (.region l true (find A.lv id))
  else (j5 P A ops [] ops.toList).bind fun l=>some (.region l false (find A.lv id))
 | .seq a b=>(comp P A a).bind fun x=>(comp P A b).bind fun y=>some (.seq x y)
 | .cond c a b=>(bo c).bind fun c=>(comp P A a).bind fun x=>(comp P A b).bind fun y=>some (.cond c x y)
 | .block id c=>(comp P A c).bind fun x=>some (.block id x)
 | .loop c=>(comp P A c).bind fun x=>some (.loop (find A.lp (fW c)) x)
 | .exit id=>some (.exit id)
 | .ret=>some .ret
 |_=>none
def zA (P:Program):List ResultVar->Option (List lL)
 | []=>some []
 | .tmp t::r=>(zA P r).bind fun l=>some (.tmp t::l)
 | .cell a t::r=>(qu P t).bind fun g=>(hZ P t).bind fun n=>(zA P r).bind fun l=>some ((if g then .eE a n else .Pj a)::l)
def jv (P:Program) (A:we) (fn:Func):Option cf :=
 match fn.body with
 |none=>none
 |some c=>if fn.name != "runtime.NumGoroutine" /\ A.n=fn.ntmps/\fn.params.size+fn.nfree<=fn.ntmps then
   (comp P A c).bind fun b=>(zA P fn.results.toList).bind fun r=>some { nparams:=fn.params.size+fn.nfree,results:=r,body:=b }
  else none
end
section
open Go
def ZL (x:Operand) (s:Nat):Nat:=match x with
 | .tmp t=>s ||| (1 <<< t)
 |_=>s
def opB (ops:Array Oper) (o:Oper) (s:Nat):Nat :=
 let s:=match o.dst,o.guard with
  |some d,none=>if s.testBit d then s-(1 <<< d) else s
  |_,_=>s
 let s:=o.op.operands.toList.foldl (fun s x=>ZL x s) s
 match o.guard with
 |some (k,_)=>match (ops[k]?).bind (·.dst) with
  |some t=>s ||| (1 <<< t)
  |none=>s
 |none=>s
def aeE (ops:Array Oper) (out:Nat):Nat :=
 let l:=ops.toList.foldr (opB ops) out
 let g:=ops.toList.foldl (fun g o=>match o.dst,o.guard with
  |some d,some _=>g ||| (1 <<< d)
  |_,_=>g) 0
 let d:=g ^^^ (g &&& out)
 l ^^^ (l &&& d)
def DL:List (Nat×Nat)->Nat->Nat
 | [],_=>0
 |(i,x)::r,k=>if i=k then x else DL r k
def rn (ret:Nat):Code->List (Nat×Nat)->Nat->Nat×List (Nat×Nat)×List (Nat×Nat)
 | .skip,_,out=>(out,[],[])
 | .region id ops _,_,out=>(aeE ops out,[(id,out)],[])
 | .seq a b,ex,out =>
  let y:=rn ret b ex out
  let x:=rn ret a ex y.1
  (x.1,x.2.1++y.2.1,x.2.2++y.2.2)
 | .cond c a b,ex,out =>
  let x:=rn ret a ex out
  let y:=rn ret b ex out
  (ZL c (x.1 ||| y.1),x.2.1++y.2.1,x.2.2++y.2.2)
 | .block id c,ex,out=>rn ret c ((id,out)::ex) out
 | .loop c,ex,_ =>
  let h1:=(rn ret c ex 0).1
  let h2:=h1 ||| (rn ret c ex h1).1
  let z:=rn ret c ex h2
  let h3:=h2 ||| z.1
  (h3,z.2.1,(fW c,h3)::z.2.2)
 | .exit id,ex,_=>(DL ex id,[],[])
 | .ret,_,_=>(ret,[],[])
 |_,_,out=>(out,[],[])
def Vv (n s:Nat):List Nat:=(List.range n).filter s.testBit
def wC (own:List Nat) (fn:Func):we:=match fn.body with
 |none=>{ n:=0,lv:=[] }
 |some c =>
  let r:=fn.results.toList.foldl (fun s x=>match x with
   | .tmp t=>s ||| (1 <<< t)
   | .cell t _=>s ||| (1 <<< t)) 0
  let z:=rn r c [] r
  let f:=fun (p:Nat×Nat)=>(p.1,Vv fn.ntmps p.2)
  { n:=fn.ntmps,own:=own,lv:=z.2.1.map f,lp:=z.2.2.map f }
def aO.size:aO->Nat
 | .seq a b=>a.size+b.size+1
 | .cond _ a b=>a.size+b.size+1
 | .block _ a=>a.size+1
 | .loop _ a=>a.size+1
 | .region .. => 1
 | .skip=>1
 | .exit _=>1
 | .ret=>1
def aO.lk:aO->List aO
 | .seq a b => .seq a b::(a.lk++b.lk)
 | .cond c a b => .cond c a b::(a.lk++b.lk)
 | .block i a => .block i a::a.lk
 | .loop l a => .loop l a::a.lk
 |c=>[c]
def sub (c:aO) (i:Nat):aO:=(c.lk[i]?).getD .skip
def ref (r:aO) (i:Nat):aO->aO
 | .skip => .skip
 | .exit n => .exit n
 | .ret => .ret
 | .region .. => sub r i
 | .seq .. => sub r i
 | .cond .. => sub r i
 | .block .. => sub r i
 | .loop .. => sub r i
def uh (r:aO) (i:Nat):aO->aO
 | .region a b c => .region a b c
 | .skip => .skip
 | .exit n => .exit n
 | .ret => .ret
 | .seq .. => sub r i
 | .cond .. => sub r i
 | .block .. => sub r i
 | .loop .. => sub r i
abbrev Hd (q b:aO):Prop:=∀(C:bt) (fn:List lL) (base:Nat) (k:List K) (env:Env) (M:ag),cJ C fn base k q env M=cJ C fn base k b env M
def wk (e:Prop):aO->Prop
 | .region .. => True
 | .skip | .exit _ | .ret=>True
 | .seq .. => e
 | .cond .. => e
 | .block .. => e
 | .loop .. => e
def eqs (r:aO):Nat->aO->Prop
 |i,.seq a b=>Hd (sub r i) (.seq (uh r (i+1) a) (ref r (i+1+a.size) b))/\(wk (eqs r (i+1) a) a/\eqs r (i+1+a.size) b)
 |i,.cond c a b=>Hd (sub r i) (.cond c (ref r (i+1) a) (ref r (i+1+a.size) b))/\(eqs r (i+1) a/\eqs r (i+1+a.size) b)
 |i,.block n a=>Hd (sub r i) (.block n (ref r (i+1) a))/\eqs r (i+1) a
 |i,.loop n a=>Hd (sub r i) (.loop n (ref r (i+1) a))/\eqs r (i+1) a
 |i,.region a b c=>Hd (sub r i) (.region a b c)
 |_,.skip=>True
 |_,.exit _=>True
 |_,.ret=>True
def jg:∀c:aO,c.lk.length=c.size
 | .seq a b=>by simp [aO.lk,aO.size,jg a,jg b]
 | .cond _ a b=>by simp [aO.lk,aO.size,jg a,jg b]
 | .block _ a=>by simp [aO.lk,aO.size,jg a]
 | .loop _ a=>by simp [aO.lk,aO.size,jg a]
 | .region .. | .skip | .exit _ | .ret=>by simp [aO.lk,aO.size]
def TP (c:aO):c.lk[0]?=some c:=by cases c<;>simp [aO.lk]
def At (r:aO) (i:Nat) (c:aO):Prop:=∀j,j<c.size->r.lk[i+j]?=c.lk[j]?
def size_pos (c:aO):0<c.size:=by cases c<;>simp [aO.size]
def At.sub {r c:aO} {i:Nat} (h:At r i c):sub r i=c:=by
 have:=h 0 (size_pos c)
 rw [Nat.add_zero,TP] at this
 simp [Abs.sub,this]
def At.ref {r c:aO} {i:Nat} (h:At r i c):ref r i c=c:=by
 cases c<;>first|rfl|exact h.sub
def At.uh {r c:aO} {i:Nat} (h:At r i c):uh r i c=c:=by
 cases c<;>first|rfl|exact h.sub
def MT {e:Prop} {c:aO} (h:e):wk e c:=by
 cases c<;>first|trivial|exact h
def At.two {r a b x:aO} {i:Nat} (h:At r i x) (hx:x.lk=x::(a.lk++b.lk)) (hs:x.size=a.size+b.size+1):At r (i+1) a/\At r (i+1+a.size) b:=by
 refine ⟨fun j hj=>?_,fun j hj=>?_⟩
 ·have:=h (j+1) (by omega)
  rw [hx,List.getElem?_cons_succ,List.getElem?_append_left (by rw [jg]; exact hj)] at this
  rw [<-this]; congr 1; omega
 ·have:=h (a.size+j+1) (by omega)
  rw [hx,List.getElem?_cons_succ,List.getElem?_append_right (by rw [jg]; omega),jg] at this
  rw [show a.size+j-a.size=j by omega] at this
  rw [<-this]; congr 1; omega
def At.one {r a x:aO} {i:Nat} (h:At r i x) (hx:x.lk=x::a.lk) (hs:x.size=a.size+1):At r (i+1) a:=by
 intro j hj
 have:=h (j+1) (by omega)
 rw [hx,List.getElem?_cons_succ] at this
 rw [<-this]; congr 1; omega
def Aj {q b:aO} (h:q=b):Hd q b:=eo h
def aD (r:aO):∀(c:aO) (i:Nat),At r i c->eqs r i c
 | .seq a b,i,h=>by
  obtain ⟨h1,h2⟩:=h.two (a:=a) (b:=b) rfl rfl
  exact ⟨Aj (by rw [h.sub,h1.uh,h2.ref]),MT (aD r a _ h1),aD r b _ h2⟩
 | .cond c a b,i,h=>by
  obtain ⟨h1,h2⟩:=h.two (a:=a) (b:=b) rfl rfl
  exact ⟨Aj (by rw [h.sub,h1.ref,h2.ref]),aD r a _ h1,aD r b _ h2⟩
 | .block n a,i,h=>by
  have h1:=h.one (a:=a) rfl rfl
  exact ⟨Aj (by rw [h.sub,h1.ref]),aD r a _ h1⟩
 | .loop n a,i,h=>by
  have h1:=h.one (a:=a) rfl rfl
  exact ⟨Aj (by rw [h.sub,h1.ref]),aD r a _ h1⟩
 | .region ..,_,h=>Aj h.sub
 | .skip,_,_=>trivial
 | .exit _,_,_=>trivial
 | .ret,_,_=>trivial
def bn (r:aO):At r 0 r:=fun j _=>by rw [Nat.zero_add]
def uT [dQ] (P:Program) (A:we):Code->Option aO
 | .skip=>some .skip
 | .region id ops draw=>if draw then
   (j5 P { A with own:=A.own.filter (1000000 <= ·) } ops [] ops.toList).bind fun l=>some (.region (gX (iK ops.toList) l 0 l) true (find A.lv id))
  else (j5 P A ops [] ops.toList).bind fun l=>some (.region l false (find A.lv id))
 | .seq a b=>(uT P A a).bind fun x=>(uT P A b).bind fun y=>some (.seq x y)
 | .cond c a b=>(bo c).bind fun c=>(uT P A a).bind fun x=>(uT P A b).bind fun y=>some (.cond c x y)
 | .block id c=>(uT P A c).bind fun x=>some (.block id x)
 | .loop c=>(uT P A c).bind fun x=>some (.loop (find A.lp (fW c)) x)
 | .exit id=>some (.exit id)
 | .ret=>some .ret
 |_=>none
def VY [dQ] (P:Program) (A:we) (fn:Func):Option aO:=match fn.body with
 |some c=>uT P A c
 |none=>none
abbrev Cv [dQ] (P:Program) (A:we) (f:Func):={ g:aO // VY P A f=some g }
def cr {o:Option cf} {n:Nat} {r:List lL} {c:aO} (h:o=some (cf.mk n r c)):o=some (cf.mk n r (sub c 0)):=by
 rw [h,(bn c).sub]
set_option linter.defProp false in
def cZ:=And.intro @eqs.eq_1 (And.intro @eqs.eq_2 (And.intro @eqs.eq_3 (And.intro @eqs.eq_4 (And.intro @eqs.eq_5 (And.intro @eqs.eq_6 (And.intro @eqs.eq_7 (And.intro @eqs.eq_8 (And.intro @ref.eq_1 (And.intro @ref.eq_2 (And.intro @ref.eq_3 (And.intro @ref.eq_4 (And.intro @ref.eq_5 (And.intro @ref.eq_6 (And.intro @ref.eq_7 (And.intro @ref.eq_8 (And.intro @uh.eq_1 (And.intro @uh.eq_2 (And.intro @uh.eq_3 (And.intro @uh.eq_4 (And.intro @uh.eq_5 (And.intro @uh.eq_6 (And.intro @uh.eq_7 (And.intro @uh.eq_8 (And.intro @wk.eq_1 (And.intro @wk.eq_2 (And.intro @wk.eq_3 (And.intro @wk.eq_4 (And.intro @wk.eq_5 (And.intro @wk.eq_6 (And.intro @wk.eq_7 (And.intro @wk.eq_8 (And.intro @aO.size.eq_1 (And.intro @aO.size.eq_2 (And.intro @aO.size.eq_3 (And.intro @aO.size.eq_4 (And.intro @aO.size.eq_5 (And.intro @aO.size.eq_6 (And.intro @aO.size.eq_7 (And.intro @aO.size.eq_8 (And.intro @and_true (@true_and)))))))))))))))))))))))))))))))))))))))))
end
end Go.Abs
namespace Go.Proofs.YtahkjijkflobhaaGreatDoor
open Go Go.Abs
def zQ:Value := .iface 177 (.agg #[.pointer (some ⟨2,70,none⟩)])
instance:dQ where
 g:=fun b=>match b with
  |0=>some [zQ]
  |_=>none
 u8:=5
def Ww:Func:={ name := "",origin := "",params := #[],resultTypes := #[],nfree:=0,ntmps:=0,results := #[],body:=some .skip,norace:=false,tmpNames := #[] }
noncomputable def Zt:Program:={ toTables:={ goVersion := "",platform := "",initOrder := "",godebug := "",types:=Tryz.types,rt:=Tryz.progTables.rt,cutTypes := #[],globals := #[],inits := #[],main:=0 },funcs:=⟨List.replicate 900 Ww⟩ }
abbrev Ko (own:List Nat) (f:Func):=Cv Zt (wC own f) f
abbrev cq (own:List Nat) (f:Func) (c:cf):Prop:=jv Tryz.prog (wC own f) f=some c
end Go.Proofs.YtahkjijkflobhaaGreatDoor
namespace Go.Proofs.YtahkjijkflobhaaGreatDoor
section
open Go Go.Abs Go.ChangeShapes Go.WideShapes Go.RowKit
def aez:ownKnob Tryz.prog.godebug=none:=by kernel_rfl
abbrev Kx:List (String×DataW Unit):=[("errors.errorType",Rows.laid_errors_errorType)]
def Rv:J:=⟨fun _=>none,fun _ _=>False⟩
def aeF (W:World):Rel Rv [] W where
 inj:=fun _ _ _ h=>by cases h
 lt:=fun _ _ h=>by cases h
 fix:=fun _ _ h=>by cases h
 tick:=fun _ _ _ _ h=>by cases h
 arr:=fun _ _ _ _ h=>by cases h
 lY:=fun _ _ h=>by cases h
 qo:=fun _ _ h=>h.elim
def Di {w:World} {b off:Nat} {v:Value} (h:w.cell? ⟨b,off,none⟩=some v):b<w.heap.size:=by
 rcases Nat.lt_or_ge b w.heap.size with hb|hb
 ·exact hb
 ·simp [World.cell?,Array.getElem?_eq_none hb] at h
def SY:((List.range Tryz.prog.types.size).filter fun t=>Tryz.prog.rowNamed t [101,114,114,111,114])=[70]:=by kernel_rfl
def WE {W:World} (hL:laidMetH Tryz.prog Kx W) (hsh:W.ShapedOpen Tryz.prog):j4 Rv [] W:=by
 have h':laidMet Tryz.prog [] W/\handlesMet Tryz.prog Kx W:=hL
 obtain ⟨name,u,ty,e1,e2,e3,e4,e5⟩:=h'.2 _ (List.mem_singleton.2 rfl)
 have en:name=[101,114,114,111,114]:=(Option.some.inj e1).symm
 subst en
 obtain rfl:=Option.some.inj ((show (Tryz.prog.cutTypes.find? (·.1 == "internal/reflectlite.rtype")).map (·.2)=some 177 by kernel_rfl).symm.trans e2)
 have hm:ty∈(List.range Tryz.prog.types.size).filter fun t=>Tryz.prog.rowNamed t [101,114,114,111,114]:=List.mem_filter.2 ⟨List.mem_range.2 e3,e4⟩
 rw [SY] at hm
 obtain rfl:=List.mem_singleton.1 hm
 rw [show typeHandle Tryz.prog 70 = .pointer (some ⟨2,70,none⟩) by kernel_rfl] at e5
 have hc:W.cell? ⟨0,0,none⟩=some zQ:=by simpa [zQ] using World.var?_cell (show Tryz.prog.globalNamed "errors.errorType" = some 0 by kernel_rfl) e5 0
 obtain ⟨⟨zero,t'⟩,hz,he⟩:=Option.map_eq_some_iff.1 (show (((begin Tryz.prog (fun _ _=>0) default).world.heap[0]?).bind Obj.row?).map (fun x=>x.1.size)=some 1 by kernel_rfl)
 obtain ⟨cs,h1,h2,_⟩:=hsh.1 0 zero t' (of_decide_eq_true (by kernel_rfl)) hz
 refine ⟨fun b vs k v hb hk=>?_,fun b vs hb=>?_,fun b p hb=>by cases hb⟩
 ·match b,hb with
  |0,hb =>
   cases hb
   match k,hk with
   |0,hk=>cases hk; exact ⟨⟨Di hc,fun id hid=>by simp at hid,fun h=>h⟩,hc⟩
 ·match b,hb with
  |0,hb=>cases hb; exact ⟨cs,_,_,h1,h2.trans he⟩
noncomputable def o6 (os:Os):World :=
 let w0:=World.holding Tryz.prog os ⟨#[],#[],[]⟩
 { w0 with heap:=w0.heap.modify 0 fun
   | .cells _ t frozen => .cells #[zQ] t frozen
   |o=>o }
def Ky (os:Os) (args:Array Value):laidMetH Tryz.prog Kx ((o6 os).forCall (fun _ _=>0) ⟨#[],args,[]⟩).memory :=
 laidMetH_of_parts (laidMet_nil _ _) (by kernel_rfl)
end
end Go.Proofs.YtahkjijkflobhaaGreatDoor
set_option linter.defProp false
set_option maxRecDepth 100000
namespace Go.Proofs.YtahkjijkflobhaaGreatDoor
open Go Go.Abs
def Ke:Ko [] Tryz.f253:=by apply Subtype.mk; cbv
def Vk:=Ke.1
def H9:=cf.mk 1 [.tmp 2] (sub Vk 0)
def Y1:cq [] Tryz.f253 H9:=cr (by kernel_rfl)
def Uh:=by
 have h:=aD Vk Ke.1 0 (bn _)
 simp only [Ke,cZ,simprocAttr] at h
 exact h
def Kb:Ko [] Tryz.f243:=by apply Subtype.mk; cbv
def Vi:=Kb.1
def H6:=cf.mk 2 [.tmp 4,.tmp 5] (sub Vi 0)
def YY:cq [] Tryz.f243 H6:=cr (by kernel_rfl)
def aam:=by
 have h:=aD Vi Kb.1 0 (bn _)
 simp only [Kb,cZ,simprocAttr] at h
 exact h
def Ju:Ko [] Tryz.f162:=by apply Subtype.mk; cbv
def UK:=Ju.1
def Hu:=cf.mk 2 [.eE 4 6,.tmp 5] (sub UK 0)
def Yd:cq [] Tryz.f162 Hu:=cr (by kernel_rfl)
def Qg:=by
 have h:=aD UK Ju.1 0 (bn _)
 simp only [Ju,cZ,simprocAttr] at h
 exact h
def JP:Ko [] Tryz.f206:=by apply Subtype.mk; cbv
def U2:=JP.1
def HM:=cf.mk 2 [.eE 4 6,.tmp 5] (sub U2 0)
def Yy:cq [] Tryz.f206 HM:=cr (by kernel_rfl)
def Mh:=by
 have h:=aD U2 JP.1 0 (bn _)
 simp only [JP,cZ,simprocAttr] at h
 exact h
def JQ:Ko [] Tryz.f207:=by apply Subtype.mk; cbv
def QC:=JQ.1
def wS:=cf.mk 1 [.tmp 2] (sub QC 0)
def Yz:cq [] Tryz.f207 wS:=cr (by kernel_rfl)
abbrev DJ:=sub QC 15
def nC:=by
 have h:=aD QC JQ.1 0 (bn _)
 simp only [JQ,cZ,simprocAttr] at h
 exact h
def Ki:Ko [] Tryz.f261:=by apply Subtype.mk; cbv
def QL:=Ki.1
def Ic:=cf.mk 3 [.tmp 6,.tmp 7] (sub QL 0)
def Y6:cq [] Tryz.f261 Ic:=cr (by kernel_rfl)
abbrev NL:=sub QL 9
def zc:=by
 have h:=aD QL Ki.1 0 (bn _)
 simp only [Ki,cZ,simprocAttr] at h
 exact h
def Kj:Ko [] Tryz.f262:=by apply Subtype.mk; cbv
def Vn:=Kj.1
def Ie:=cf.mk 2 [.tmp 4] (sub Vn 0)
def Y7:cq [] Tryz.f262 Ie:=cr (by kernel_rfl)
def aap:=by
 have h:=aD Vn Kj.1 0 (bn _)
 simp only [Kj,cZ,simprocAttr] at h
 exact h
def Kk:Ko [] Tryz.f263:=by apply Subtype.mk; cbv
def Vo:=Kk.1
def Ig:=cf.mk 2 [.tmp 4] (sub Vo 0)
def Y8:cq [] Tryz.f263 Ig:=cr (by kernel_rfl)
def aaq:=by
 have h:=aD Vo Kk.1 0 (bn _)
 simp only [Kk,cZ,simprocAttr] at h
 exact h
def JR:Ko [] Tryz.f208:=by apply Subtype.mk; cbv
def U3:=JR.1
def HN:=cf.mk 2 [.tmp 4,.tmp 5] (sub U3 0)
def YA:cq [] Tryz.f208 HN:=cr (by kernel_rfl)
def aad:=by
 have h:=aD U3 JR.1 0 (bn _)
 simp only [JR,cZ,simprocAttr] at h
 exact h
def I7:Ko [] Tryz.f130:=by apply Subtype.mk; cbv
def Uv:=I7.1
def Hg:=cf.mk 3 [.tmp 6,.tmp 7] (sub Uv 0)
def XH:cq [] Tryz.f130 Hg:=cr (by kernel_rfl)
def Bs:=by
 have h:=aD Uv I7.1 0 (bn _)
 simp only [I7,cZ,simprocAttr] at h
 exact h
def Sh:Ko [] Tryz.f86:=by apply Subtype.mk; cbv
def b86:=Sh.1
def Rj:=cf.mk 2 [.eE 4 6,.tmp 5] (sub b86 0)
def aem:cq [] Tryz.f86 Rj:=cr (by kernel_rfl)
def E86:=by
 have h:=aD b86 Sh.1 0 (bn _)
 simp only [Sh,cZ,simprocAttr] at h
 exact h
def JS:Ko [9] Tryz.f209:=by apply Subtype.mk; cbv
def QD:=JS.1
def HO:=cf.mk 2 [.tmp 4] (sub QD 0)
def YB:cq [9] Tryz.f209 HO:=cr (by kernel_rfl)
abbrev NC:=sub QD 7
def ub:=by
 have h:=aD QD JS.1 0 (bn _)
 simp only [JS,cZ,simprocAttr] at h
 exact h
def Kf:Ko [] Tryz.f254:=by apply Subtype.mk; cbv
def Vl:=Kf.1
def Ia:=cf.mk 2 [.tmp 4] (sub Vl 0)
def Y2:cq [] Tryz.f254 Ia:=cr (by kernel_rfl)
def aao:=by
 have h:=aD Vl Kf.1 0 (bn _)
 simp only [Kf,cZ,simprocAttr] at h
 exact h
def JH:Ko [1000255,1000256] Tryz.f197:=by apply Subtype.mk; cbv
def UU:=JH.1
def HF:=cf.mk 2 [] (sub UU 0)
def Yp:cq [1000255,1000256] Tryz.f197 HF:=cr (by kernel_rfl)
def Qi:=by
 have h:=aD UU JH.1 0 (bn _)
 simp only [JH,cZ,simprocAttr] at h
 exact h
def Kg:Ko [1000255,1000294] Tryz.f258:=by apply Subtype.mk; cbv
def Vm:=Kg.1
def Ib:=cf.mk 2 [] (sub Vm 0)
def Y3:cq [1000255,1000294] Tryz.f258 Ib:=cr (by kernel_rfl)
def Ql:=by
 have h:=aD Vm Kg.1 0 (bn _)
 simp only [Kg,cZ,simprocAttr] at h
 exact h
def JI:Ko [1000214,1000257,2000197] Tryz.f198:=by apply Subtype.mk; cbv
def UW:=JI.1
def HG:=cf.mk 4 [] (sub UW 0)
def Yq:cq [1000214,1000257,2000197] Tryz.f198 HG:=cr (by kernel_rfl)
def Gr:=by
 have h:=aD UW JI.1 0 (bn _)
 simp only [JI,cZ,simprocAttr] at h
 exact h
def JN:Ko [1000214,1000260,2000197] Tryz.f204:=by apply Subtype.mk; cbv
def U0:=JN.1
def HK:=cf.mk 3 [] (sub U0 0)
def Yw:cq [1000214,1000260,2000197] Tryz.f204 HK:=cr (by kernel_rfl)
def Mg:=by
 have h:=aD U0 JN.1 0 (bn _)
 simp only [JN,cZ,simprocAttr] at h
 exact h
def JO:Ko [] Tryz.f205:=by apply Subtype.mk; cbv
def U1:=JO.1
def HL:=cf.mk 2 [] (sub U1 0)
def Yx:cq [] Tryz.f205 HL:=cr (by kernel_rfl)
def Qj:=by
 have h:=aD U1 JO.1 0 (bn _)
 simp only [JO,cZ,simprocAttr] at h
 exact h
def JG:Ko [] Tryz.f196:=by apply Subtype.mk; cbv
def UT:=JG.1
def HE:=cf.mk 3 [.tmp 6] (sub UT 0)
def Yo:cq [] Tryz.f196 HE:=cr (by kernel_rfl)
def y9:=by
 have h:=aD UT JG.1 0 (bn _)
 simp only [JG,cZ,simprocAttr] at h
 exact h
def JU:Ko [] Tryz.f211:=by apply Subtype.mk; cbv
def U6:=JU.1
def HQ:=cf.mk 2 [.tmp 4] (sub U6 0)
def YD:cq [] Tryz.f211 HQ:=cr (by kernel_rfl)
def Ue:=by
 have h:=aD U6 JU.1 0 (bn _)
 simp only [JU,cZ,simprocAttr] at h
 exact h
def JK:Ko [] Tryz.f200:=by apply Subtype.mk; cbv
def UY:=JK.1
def HI:=cf.mk 2 [.eE 4 3,.tmp 5] (sub UY 0)
def Yt:cq [] Tryz.f200 HI:=cr (by kernel_rfl)
def Ud:=by
 have h:=aD UY JK.1 0 (bn _)
 simp only [JK,cZ,simprocAttr] at h
 exact h
def J3:Ko [] Tryz.f227:=by apply Subtype.mk; cbv
def Vc:=J3.1
def HX:=cf.mk 3 [.eE 6 3,.tmp 7] (sub Vc 0)
def YN:cq [] Tryz.f227 HX:=cr (by kernel_rfl)
def Mi:=by
 have h:=aD Vc J3.1 0 (bn _)
 simp only [J3,cZ,simprocAttr] at h
 exact h
def I3:Ko [] Tryz.f126:=by apply Subtype.mk; cbv
def Us:=I3.1
def Hb:=cf.mk 4 [.eE 8 3,.tmp 9,.tmp 10] (sub Us 0)
def XD:cq [] Tryz.f126 Hb:=cr (by kernel_rfl)
def Qb:=by
 have h:=aD Us I3.1 0 (bn _)
 simp only [I3,cZ,simprocAttr] at h
 exact h
def I5:Ko [] Tryz.f128:=by apply Subtype.mk; cbv
def Ut:=I5.1
def He:=cf.mk 4 [.eE 8 3,.tmp 9] (sub Ut 0)
def XF:cq [] Tryz.f128 He:=cr (by kernel_rfl)
def Qc:=by
 have h:=aD Ut I5.1 0 (bn _)
 simp only [I5,cZ,simprocAttr] at h
 exact h
def I6:Ko [] Tryz.f129:=by apply Subtype.mk; cbv
def Uu:=I6.1
def Hf:=cf.mk 3 [.eE 6 3,.tmp 7,.tmp 8] (sub Uu 0)
def XG:cq [] Tryz.f129 Hf:=cr (by kernel_rfl)
def Gq:=by
 have h:=aD Uu I6.1 0 (bn _)
 simp only [I6,cZ,simprocAttr] at h
 exact h
def Kl:Ko [] Tryz.f264:=by apply Subtype.mk; cbv
def QM:=Kl.1
def Ih:=cf.mk 2 [.tmp 4] (sub QM 0)
def Y9:cq [] Tryz.f264 Ih:=cr (by kernel_rfl)
abbrev NM:=sub QM 7
def Bu:=by
 have h:=aD QM Kl.1 0 (bn _)
 simp only [Kl,cZ,simprocAttr] at h
 exact h
def JT:Ko [] Tryz.f210:=by apply Subtype.mk; cbv
def U5:=JT.1
def HP:=cf.mk 2 [.tmp 4] (sub U5 0)
def YC:cq [] Tryz.f210 HP:=cr (by kernel_rfl)
def aae:=by
 have h:=aD U5 JT.1 0 (bn _)
 simp only [JT,cZ,simprocAttr] at h
 exact h
def Kn:Ko [] Tryz.f266:=by apply Subtype.mk; cbv
def Vq:=Kn.1
def Ij:=cf.mk 5 [.tmp 6] (sub Vq 0)
def Zb:cq [] Tryz.f266 Ij:=cr (by kernel_rfl)
def Ui:=by
 have h:=aD Vq Kn.1 0 (bn _)
 simp only [Kn,cZ,simprocAttr] at h
 exact h
def Kt:Ko [] Tryz.f296:=by apply Subtype.mk; cbv
def QO:=Kt.1
def Im:=cf.mk 2 [.tmp 4] (sub QO 0)
def Zf:cq [] Tryz.f296 Im:=cr (by kernel_rfl)
abbrev NP:=sub QO 7
def Bw:=by
 have h:=aD QO Kt.1 0 (bn _)
 simp only [Kt,cZ,simprocAttr] at h
 exact h
def Km:Ko [] Tryz.f265:=by apply Subtype.mk; cbv
def Vp:=Km.1
def Ii:=cf.mk 2 [.tmp 4] (sub Vp 0)
def Za:cq [] Tryz.f265 Ii:=cr (by kernel_rfl)
def aar:=by
 have h:=aD Vp Km.1 0 (bn _)
 simp only [Km,cZ,simprocAttr] at h
 exact h
def JV:Ko [] Tryz.f212:=by apply Subtype.mk; cbv
def U7:=JV.1
def HR:=cf.mk 3 [.tmp 6] (sub U7 0)
def YE:cq [] Tryz.f212 HR:=cr (by kernel_rfl)
def aaf:=by
 have h:=aD U7 JV.1 0 (bn _)
 simp only [JV,cZ,simprocAttr] at h
 exact h
def I8:Ko [] Tryz.f131:=by apply Subtype.mk; cbv
def Qw:=I8.1
def Hh:=cf.mk 5 [.eE 10 3,.tmp 11,.tmp 12] (sub Qw 0)
def XI:cq [] Tryz.f131 Hh:=cr (by kernel_rfl)
abbrev D0:=sub Qw 86
def pM:=by
 have h:=aD Qw I8.1 0 (bn _)
 simp only [I8,cZ,simprocAttr] at h
 exact h
def Js:Ko [] Tryz.f160:=by apply Subtype.mk; cbv
def Qy:=Js.1
def Ds:=cf.mk 3 [.tmp 6,.tmp 7] (sub Qy 0)
def Yb:cq [] Tryz.f160 Ds:=cr (by kernel_rfl)
abbrev DI:=sub Qy 9
def pk:=by
 have h:=aD Qy Js.1 0 (bn _)
 simp only [Js,cZ,simprocAttr] at h
 exact h
def Ks:Ko [] Tryz.f286:=by apply Subtype.mk; cbv
def Vs:=Ks.1
def Il:=cf.mk 2 [.tmp 4] (sub Vs 0)
def Ze:cq [] Tryz.f286 Il:=cr (by kernel_rfl)
def aat:=by
 have h:=aD Vs Ks.1 0 (bn _)
 simp only [Ks,cZ,simprocAttr] at h
 exact h
def Jq:Ko [] Tryz.f154:=by apply Subtype.mk; cbv
def UI:=Jq.1
def Hs:=cf.mk 2 [.tmp 4] (sub UI 0)
def X6:cq [] Tryz.f154 Hs:=cr (by kernel_rfl)
def Ua:=by
 have h:=aD UI Jq.1 0 (bn _)
 simp only [Jq,cZ,simprocAttr] at h
 exact h
def Ka:Ko [] Tryz.f239:=by apply Subtype.mk; cbv
def Vh:=Ka.1
def H5:=cf.mk 1 [.tmp 2] (sub Vh 0)
def YW:cq [] Tryz.f239 H5:=cr (by kernel_rfl)
def aal:=by
 have h:=aD Vh Ka.1 0 (bn _)
 simp only [Ka,cZ,simprocAttr] at h
 exact h
def RV:Ko [] Tryz.f41:=by apply Subtype.mk; cbv
def b41:=RV.1
def Re:=cf.mk 2 [.tmp 4] (sub b41 0)
def adR:cq [] Tryz.f41 Re:=cr (by kernel_rfl)
def E41:=by
 have h:=aD b41 RV.1 0 (bn _)
 simp only [RV,cZ,simprocAttr] at h
 exact h
def Sr:Ko [] Tryz.f98:=by apply Subtype.mk; cbv
def b98:=Sr.1
def Rr:=cf.mk 2 [.tmp 4] (sub b98 0)
def aev:cq [] Tryz.f98 Rr:=cr (by kernel_rfl)
def E98:=by
 have h:=aD b98 Sr.1 0 (bn _)
 simp only [Sr,cZ,simprocAttr] at h
 exact h
def Ss:Ko [] Tryz.f99:=by apply Subtype.mk; cbv
def b99:=Ss.1
def Rs:=cf.mk 2 [.tmp 4] (sub b99 0)
def aew:cq [] Tryz.f99 Rs:=cr (by kernel_rfl)
def E99:=by
 have h:=aD b99 Ss.1 0 (bn _)
 simp only [Ss,cZ,simprocAttr] at h
 exact h
def IZ:Ko [] Tryz.f100:=by apply Subtype.mk; cbv
def Qu:=IZ.1
def G7:=cf.mk 2 [.tmp 4] (sub Qu 0)
def Xz:cq [] Tryz.f100 G7:=cr (by kernel_rfl)
abbrev Np:=sub Qu 15
def xZ:=by
 have h:=aD Qu IZ.1 0 (bn _)
 simp only [IZ,cZ,simprocAttr] at h
 exact h
def I0:Ko [] Tryz.f101:=by apply Subtype.mk; cbv
def Qv:=I0.1
def G8:=cf.mk 3 [.tmp 6] (sub Qv 0)
def XA:cq [] Tryz.f101 G8:=cr (by kernel_rfl)
abbrev Nq:=sub Qv 15
def x4:=by
 have h:=aD Qv I0.1 0 (bn _)
 simp only [I0,cZ,simprocAttr] at h
 exact h
def I9:Ko [1000214] Tryz.f132:=by apply Subtype.mk; cbv
def Uw:=I9.1
def pC:=cf.mk 4 [.tmp 8,.tmp 9,.tmp 10] (sub Uw 0)
def XJ:cq [1000214] Tryz.f132 pC:=cr (by kernel_rfl)
def yZ:=by
 have h:=aD Uw I9.1 0 (bn _)
 simp only [I9,cZ,simprocAttr] at h
 exact h
def Jk:Ko [] Tryz.f145:=by apply Subtype.mk; cbv
def Qx:=Jk.1
def z6:=cf.mk 2 [.tmp 4] (sub Qx 0)
def XV:cq [] Tryz.f145 z6:=cr (by kernel_rfl)
abbrev DH:=sub Qx 7
def pj:=by
 have h:=aD Qx Jk.1 0 (bn _)
 simp only [Jk,cZ,simprocAttr] at h
 exact h
def JW:Ko [] Tryz.f213:=by apply Subtype.mk; cbv
def QE:=JW.1
def Aa:=cf.mk 2 [.tmp 4] (sub QE 0)
def YF:cq [] Tryz.f213 Aa:=cr (by kernel_rfl)
abbrev ND:=sub QE 17
def x7:=by
 have h:=aD QE JW.1 0 (bn _)
 simp only [JW,cZ,simprocAttr] at h
 exact h
def JX:Ko [] Tryz.f215:=by apply Subtype.mk; cbv
def U8:=JX.1
def HS:=cf.mk 2 [.tmp 3] (sub U8 0)
def YG:cq [] Tryz.f215 HS:=cr (by kernel_rfl)
def aag:=by
 have h:=aD U8 JX.1 0 (bn _)
 simp only [JX,cZ,simprocAttr] at h
 exact h
def Xr:Ko [] Tryz.f217:=by apply Subtype.mk; cbv
def aaJ:=Xr.1
def PG:=cf.mk 2 [.tmp 4] (sub aaJ 0)
def YH:cq [] Tryz.f217 PG:=cr (by kernel_rfl)
def RT:Ko [] Tryz.f38:=by apply Subtype.mk; cbv
def b38:=RT.1
def Rb:=cf.mk 0 [.eE 0 3] (sub b38 0)
def adO:cq [] Tryz.f38 Rb:=cr (by kernel_rfl)
def E38:=by
 have h:=aD b38 RT.1 0 (bn _)
 simp only [RT,cZ,simprocAttr] at h
 exact h
def JD:Ko [] Tryz.f193:=by apply Subtype.mk; cbv
def My:=JD.1
def HB:=cf.mk 2 [.tmp 4,.tmp 5] (sub My 0)
def Yl:cq [] Tryz.f193 HB:=cr (by kernel_rfl)
abbrev NA:=sub My 19
abbrev Tl:=sub My 39
def Bt:=by
 have h:=aD My JD.1 0 (bn _)
 simp only [JD,cZ,simprocAttr] at h
 exact h
def JF:Ko [] Tryz.f195:=by apply Subtype.mk; cbv
def US:=JF.1
def HD:=cf.mk 1 [.tmp 2,.tmp 3,.tmp 4] (sub US 0)
def Yn:cq [] Tryz.f195 HD:=cr (by kernel_rfl)
def Mf:=by
 have h:=aD US JF.1 0 (bn _)
 simp only [JF,cZ,simprocAttr] at h
 exact h
end Go.Proofs.YtahkjijkflobhaaGreatDoor
set_option linter.defProp false
set_option maxRecDepth 100000
namespace Go.Proofs.YtahkjijkflobhaaGreatDoor
open Go Go.Abs
def Sj:Ko [] Tryz.f88:=by apply Subtype.mk; cbv
def b88:=Sj.1
def Rl:=cf.mk 1 [.tmp 2] (sub b88 0)
def aeo:cq [] Tryz.f88 Rl:=cr (by kernel_rfl)
def E88:=by
 have h:=aD b88 Sj.1 0 (bn _)
 simp only [Sj,cZ,simprocAttr] at h
 exact h
def JY:Ko [] Tryz.f218:=by apply Subtype.mk; cbv
def QF:=JY.1
def HT:=cf.mk 3 [.tmp 6,.tmp 7] (sub QF 0)
def YI:cq [] Tryz.f218 HT:=cr (by kernel_rfl)
abbrev NF:=sub QF 9
def za:=by
 have h:=aD QF JY.1 0 (bn _)
 simp only [JY,cZ,simprocAttr] at h
 exact h
def Sk:Ko [] Tryz.f89:=by apply Subtype.mk; cbv
def b89:=Sk.1
def Rm:=cf.mk 3 [.tmp 6] (sub b89 0)
def aep:cq [] Tryz.f89 Rm:=cr (by kernel_rfl)
def E89:=by
 have h:=aD b89 Sk.1 0 (bn _)
 simp only [Sk,cZ,simprocAttr] at h
 exact h
def Jv:Ko [] Tryz.f163:=by apply Subtype.mk; cbv
def UL:=Jv.1
def Hv:=cf.mk 1 [.tmp 2] (sub UL 0)
def Ye:cq [] Tryz.f163 Hv:=cr (by kernel_rfl)
def Ub:=by
 have h:=aD UL Jv.1 0 (bn _)
 simp only [Jv,cZ,simprocAttr] at h
 exact h
def Si:Ko [] Tryz.f87:=by apply Subtype.mk; cbv
def b87:=Si.1
def Rk:=cf.mk 1 [.eE 2 2] (sub b87 0)
def aen:cq [] Tryz.f87 Rk:=cr (by kernel_rfl)
def E87:=by
 have h:=aD b87 Si.1 0 (bn _)
 simp only [Si,cZ,simprocAttr] at h
 exact h
def J0:Ko [] Tryz.f222:=by apply Subtype.mk; cbv
def U9:=J0.1
def HU:=cf.mk 2 [.tmp 4] (sub U9 0)
def YK:cq [] Tryz.f222 HU:=cr (by kernel_rfl)
def aah:=by
 have h:=aD U9 J0.1 0 (bn _)
 simp only [J0,cZ,simprocAttr] at h
 exact h
def JZ:Ko [] Tryz.f221:=by apply Subtype.mk; cbv
def QG:=JZ.1
def Ab:=cf.mk 2 [.tmp 4] (sub QG 0)
def YJ:cq [] Tryz.f221 Ab:=cr (by kernel_rfl)
abbrev yz:=sub QG 7
def lM:=by
 have h:=aD QG JZ.1 0 (bn _)
 simp only [JZ,cZ,simprocAttr] at h
 exact h
def Sm:Ko [] Tryz.f92:=by apply Subtype.mk; cbv
def b92:=Sm.1
def Ro:=cf.mk 2 [.tmp 4] (sub b92 0)
def aes:cq [] Tryz.f92 Ro:=cr (by kernel_rfl)
def E92:=by
 have h:=aD b92 Sm.1 0 (bn _)
 simp only [Sm,cZ,simprocAttr] at h
 exact h
def Jy:Ko [] Tryz.f165:=by apply Subtype.mk; cbv
def UN:=Jy.1
def Hw:=cf.mk 2 [.tmp 3] (sub UN 0)
def Yg:cq [] Tryz.f165 Hw:=cr (by kernel_rfl)
def Z7:=by
 have h:=aD UN Jy.1 0 (bn _)
 simp only [Jy,cZ,simprocAttr] at h
 exact h
def Jw:Ko [] Tryz.f164:=by apply Subtype.mk; cbv
def UM:=Jw.1
def Dt:=cf.mk 2 [.tmp 4] (sub UM 0)
def Yf:cq [] Tryz.f164 Dt:=cr (by kernel_rfl)
def Uc:=by
 have h:=aD UM Jw.1 0 (bn _)
 simp only [Jw,cZ,simprocAttr] at h
 exact h
def Jc:Ko [1000220,1000219] Tryz.f135:=by apply Subtype.mk; cbv
def Uy:=Jc.1
def Hk:=cf.mk 5 [.tmp 10,.tmp 11] (sub Uy 0)
def XM:cq [1000220,1000219] Tryz.f135 Hk:=cr (by kernel_rfl)
def Eg:=by
 have h:=aD Uy Jc.1 0 (bn _)
 simp only [Jc,cZ,simprocAttr] at h
 exact h
def Jd:Ko [1000220,1000223,2000092] Tryz.f136:=by apply Subtype.mk; cbv
def Uz:=Jd.1
def Dq:=cf.mk 4 [.eE 8 3,.tmp 9,.tmp 10] (sub Uz 0)
def XN:cq [1000220,1000223,2000092] Tryz.f136 Dq:=cr (by kernel_rfl)
def Qd:=by
 have h:=aD Uz Jd.1 0 (bn _)
 simp only [Jd,cZ,simprocAttr] at h
 exact h
def Jn:Ko [] Tryz.f148:=by apply Subtype.mk; cbv
def Mw:=Jn.1
def Hq:=cf.mk 3 [.eE 6 3,.tmp 7] (sub Mw 0)
def XY:cq [] Tryz.f148 Hq:=cr (by kernel_rfl)
abbrev Nw:=sub Mw 7
abbrev Ti:=sub Mw 23
def Ei:=by
 have h:=aD Mw Jn.1 0 (bn _)
 simp only [Jn,cZ,simprocAttr] at h
 exact h
def J2:Ko [] Tryz.f226:=by apply Subtype.mk; cbv
def Vb:=J2.1
def HW:=cf.mk 3 [.tmp 6,.tmp 7] (sub Vb 0)
def YM:cq [] Tryz.f226 HW:=cr (by kernel_rfl)
def Qk:=by
 have h:=aD Vb J2.1 0 (bn _)
 simp only [J2,cZ,simprocAttr] at h
 exact h
def Sl:Ko [3] Tryz.f90:=by apply Subtype.mk; cbv
def ZR:=Sl.1
def Rn:=cf.mk 1 [.tmp 2] (sub ZR 0)
def aeq:cq [3] Tryz.f90 Rn:=cr (by kernel_rfl)
abbrev SG:=sub ZR 9
abbrev Zu:=sub ZR 25
def T0:=by
 have h:=aD ZR Sl.1 0 (bn _)
 simp only [Sl,cZ,simprocAttr] at h
 exact h
def Sn:Ko [] Tryz.f93:=by apply Subtype.mk; cbv
def b93:=Sn.1
def Rp:=cf.mk 2 [.tmp 4,.tmp 5] (sub b93 0)
def aet:cq [] Tryz.f93 Rp:=cr (by kernel_rfl)
def Ul:=by
 have h:=aD b93 Sn.1 0 (bn _)
 simp only [Sn,cZ,simprocAttr] at h
 exact h
def Jz:Ko [] Tryz.f166:=by apply Subtype.mk; cbv
def Qz:=Jz.1
def Hx:=cf.mk 5 [] (sub Qz 0)
def Yh:cq [] Tryz.f166 Hx:=cr (by kernel_rfl)
abbrev Ny:=sub Qz 8
def Ek:=by
 have h:=aD Qz Jz.1 0 (bn _)
 simp only [Jz,cZ,simprocAttr] at h
 exact h
def JC:Ko [] Tryz.f169:=by apply Subtype.mk; cbv
def UQ:=JC.1
def HA:=cf.mk 2 [.tmp 4,.tmp 5] (sub UQ 0)
def Yk:cq [] Tryz.f169 HA:=cr (by kernel_rfl)
def Z8:=by
 have h:=aD UQ JC.1 0 (bn _)
 simp only [JC,cZ,simprocAttr] at h
 exact h
def Kc:Ko [] Tryz.f244:=by apply Subtype.mk; cbv
def QJ:=Kc.1
def H7:=cf.mk 3 [.tmp 6,.tmp 7] (sub QJ 0)
def YZ:cq [] Tryz.f244 H7:=cr (by kernel_rfl)
abbrev NJ:=sub QJ 9
def zb:=by
 have h:=aD QJ Kc.1 0 (bn _)
 simp only [Kc,cZ,simprocAttr] at h
 exact h
def Kd:Ko [] Tryz.f245:=by apply Subtype.mk; cbv
def Vj:=Kd.1
def H8:=cf.mk 2 [.tmp 4] (sub Vj 0)
def Y0:cq [] Tryz.f245 H8:=cr (by kernel_rfl)
def aan:=by
 have h:=aD Vj Kd.1 0 (bn _)
 simp only [Kd,cZ,simprocAttr] at h
 exact h
def JA:Ko [] Tryz.f167:=by apply Subtype.mk; cbv
def QA:=JA.1
def Hy:=cf.mk 3 [] (sub QA 0)
def Yi:cq [] Tryz.f167 Hy:=cr (by kernel_rfl)
abbrev Nz:=sub QA 4
def Em:=by
 have h:=aD QA JA.1 0 (bn _)
 simp only [JA,cZ,simprocAttr] at h
 exact h
def Sq:Ko [] Tryz.f94:=by apply Subtype.mk; cbv
def b94:=Sq.1
def Rq:=cf.mk 3 [.tmp 6] (sub b94 0)
def aeu:cq [] Tryz.f94 Rq:=cr (by kernel_rfl)
def E94:=by
 have h:=aD b94 Sq.1 0 (bn _)
 simp only [Sq,cZ,simprocAttr] at h
 exact h
def JB:Ko [] Tryz.f168:=by apply Subtype.mk; cbv
def UO:=JB.1
def Hz:=cf.mk 3 [.tmp 4] (sub UO 0)
def Yj:cq [] Tryz.f168 Hz:=cr (by kernel_rfl)
def Qh:=by
 have h:=aD UO JB.1 0 (bn _)
 simp only [JB,cZ,simprocAttr] at h
 exact h
def Kh:Ko [] Tryz.f259:=by apply Subtype.mk; cbv
def QK:=Kh.1
def Du:=cf.mk 2 [.tmp 4] (sub QK 0)
def Y4:cq [] Tryz.f259 Du:=cr (by kernel_rfl)
abbrev NK:=sub QK 7
def x8:=by
 have h:=aD QK Kh.1 0 (bn _)
 simp only [Kh,cZ,simprocAttr] at h
 exact h
def Jh:Ko [1000202,1000228,1000229] Tryz.f141:=by apply Subtype.mk; cbv
def UC:=Jh.1
def zZ:=cf.mk 5 [.tmp 10,.tmp 11] (sub UC 0)
def XR:cq [1000202,1000228,1000229] Tryz.f141 zZ:=cr (by kernel_rfl)
def Eh:=by
 have h:=aD UC Jh.1 0 (bn _)
 simp only [Jh,cZ,simprocAttr] at h
 exact h
def Jp:Ko [] Tryz.f153:=by apply Subtype.mk; cbv
def UH:=Jp.1
def Dr:=cf.mk 1 [.tmp 2] (sub UH 0)
def X5:cq [] Tryz.f153 Dr:=cr (by kernel_rfl)
def y8:=by
 have h:=aD UH Jp.1 0 (bn _)
 simp only [Jp,cZ,simprocAttr] at h
 exact h
def RS:Ko [] Tryz.f37:=by apply Subtype.mk; cbv
def b37:=RS.1
def Ra:=cf.mk 1 [.eE 2 8] (sub b37 0)
def adN:cq [] Tryz.f37 Ra:=cr (by kernel_rfl)
def E37:=by
 have h:=aD b37 RS.1 0 (bn _)
 simp only [RS,cZ,simprocAttr] at h
 exact h
def Jo:Ko [] Tryz.f152:=by apply Subtype.mk; cbv
def UG:=Jo.1
def Hr:=cf.mk 3 [.tmp 6] (sub UG 0)
def X4:cq [] Tryz.f152 Hr:=cr (by kernel_rfl)
def Z5:=by
 have h:=aD UG Jo.1 0 (bn _)
 simp only [Jo,cZ,simprocAttr] at h
 exact h
def J9:Ko [] Tryz.f238:=by apply Subtype.mk; cbv
def Vg:=J9.1
def H4:=cf.mk 3 [.tmp 4] (sub Vg 0)
def YV:cq [] Tryz.f238 H4:=cr (by kernel_rfl)
def Ug:=by
 have h:=aD Vg J9.1 0 (bn _)
 simp only [J9,cZ,simprocAttr] at h
 exact h
def J8:Ko [] Tryz.f237:=by apply Subtype.mk; cbv
def Vf:=J8.1
def H3:=cf.mk 2 [.tmp 4] (sub Vf 0)
def YU:cq [] Tryz.f237 H3:=cr (by kernel_rfl)
def aak:=by
 have h:=aD Vf J8.1 0 (bn _)
 simp only [J8,cZ,simprocAttr] at h
 exact h
def Kr:Ko [] Tryz.f275:=by apply Subtype.mk; cbv
def QN:=Kr.1
def Ik:=cf.mk 2 [.tmp 4] (sub QN 0)
def Zd:cq [] Tryz.f275 Ik:=cr (by kernel_rfl)
abbrev NN:=sub QN 7
def Bv:=by
 have h:=aD QN Kr.1 0 (bn _)
 simp only [Kr,cZ,simprocAttr] at h
 exact h
def Sg:Ko [] Tryz.f85:=by apply Subtype.mk; cbv
def b85:=Sg.1
def Ri:=cf.mk 2 [.tmp 4] (sub b85 0)
def ael:cq [] Tryz.f85 Ri:=cr (by kernel_rfl)
def E85:=by
 have h:=aD b85 Sg.1 0 (bn _)
 simp only [Sg,cZ,simprocAttr] at h
 exact h
def Jt:Ko [] Tryz.f161:=by apply Subtype.mk; cbv
def UJ:=Jt.1
def Ht:=cf.mk 2 [.tmp 4] (sub UJ 0)
def Yc:cq [] Tryz.f161 Ht:=cr (by kernel_rfl)
def Z6:=by
 have h:=aD UJ Jt.1 0 (bn _)
 simp only [Jt,cZ,simprocAttr] at h
 exact h
def J1:Ko [] Tryz.f225:=by apply Subtype.mk; cbv
def Va:=J1.1
def HV:=cf.mk 2 [.tmp 4] (sub Va 0)
def YL:cq [] Tryz.f225 HV:=cr (by kernel_rfl)
def Uf:=by
 have h:=aD Va J1.1 0 (bn _)
 simp only [J1,cZ,simprocAttr] at h
 exact h
def Je:Ko [8000224,1001004005] Tryz.f137:=by apply Subtype.mk; cbv
def Eu:=Je.1
def Hl:=cf.mk 2 [.eE 4 8] (sub Eu 0)
def XO:cq [8000224,1001004005] Tryz.f137 Hl:=cr (by kernel_rfl)
abbrev Nt:=sub Eu 17
abbrev Nu:=sub Eu 40
abbrev OM:=sub Eu 62
abbrev ON:=sub Eu 35
def x5:=by
 have h:=aD Eu Je.1 0 (bn _)
 simp only [Je,cZ,simprocAttr] at h
 exact h
def Ji:Ko [8000230] Tryz.f142:=by apply Subtype.mk; cbv
def UD:=Ji.1
def Hm:=cf.mk 2 [.eE 4 8,.tmp 5,.tmp 6] (sub UD 0)
def XT:cq [8000230] Tryz.f142 Hm:=cr (by kernel_rfl)
def T8:=by
 have h:=aD UD Ji.1 0 (bn _)
 simp only [Ji,cZ,simprocAttr] at h
 exact h
def Sf:Ko [6000012] Tryz.f84:=by apply Subtype.mk; cbv
def T4:=Sf.1
def Rh:=cf.mk 2 [.tmp 4,.tmp 5] (sub T4 0)
def aek:cq [6000012] Tryz.f84 Rh:=cr (by kernel_rfl)
abbrev SE:=sub T4 9
abbrev SF:=sub T4 30
abbrev TA:=sub T4 46
abbrev TB:=sub T4 25
def Mp:=by
 have h:=aD T4 Sf.1 0 (bn _)
 simp only [Sf,cZ,simprocAttr] at h
 exact h
def Jr:Ko [] Tryz.f157:=by apply Subtype.mk; cbv
def Mx:=Jr.1
def z7:=cf.mk 5 [.tmp 6] (sub Mx 0)
def X9:cq [] Tryz.f157 z7:=cr (by kernel_rfl)
abbrev Nx:=sub Mx 33
abbrev Tj:=sub Mx 45
def Ej:=by
 have h:=aD Mx Jr.1 0 (bn _)
 simp only [Jr,cZ,simprocAttr] at h
 exact h
def Xq:Ko [] Tryz.f159:=by apply Subtype.mk; cbv
def aaI:=Xq.1
def PF:=cf.mk 2 [.tmp 4] (sub aaI 0)
def Ya:cq [] Tryz.f159 PF:=cr (by kernel_rfl)
def Jj:Ko [] Tryz.f143:=by apply Subtype.mk; cbv
def Mv:=Jj.1
def Hn:=cf.mk 2 [.tmp 4,.tmp 5,.tmp 6] (sub Mv 0)
def XU:cq [] Tryz.f143 Hn:=cr (by kernel_rfl)
abbrev Nv:=sub Mv 7
abbrev Th:=sub Mv 27
def Md:=by
 have h:=aD Mv Jj.1 0 (bn _)
 simp only [Jj,cZ,simprocAttr] at h
 exact h
def J4:Ko [5] Tryz.f232:=by apply Subtype.mk; cbv
def QH:=J4.1
def HY:=cf.mk 2 [.tmp 4] (sub QH 0)
def YO:cq [5] Tryz.f232 HY:=cr (by kernel_rfl)
abbrev NG:=sub QH 9
def Mj:=by
 have h:=aD QH J4.1 0 (bn _)
 simp only [J4,cZ,simprocAttr] at h
 exact h
def J5:Ko [] Tryz.f233:=by apply Subtype.mk; cbv
def Vd:=J5.1
def HZ:=cf.mk 2 [.tmp 3] (sub Vd 0)
def YP:cq [] Tryz.f233 HZ:=cr (by kernel_rfl)
def aai:=by
 have h:=aD Vd J5.1 0 (bn _)
 simp only [J5,cZ,simprocAttr] at h
 exact h
def J6:Ko [5] Tryz.f234:=by apply Subtype.mk; cbv
def QI:=J6.1
def H0:=cf.mk 2 [.tmp 4] (sub QI 0)
def YQ:cq [5] Tryz.f234 H0:=cr (by kernel_rfl)
abbrev NH:=sub QI 9
def Ml:=by
 have h:=aD QI J6.1 0 (bn _)
 simp only [J6,cZ,simprocAttr] at h
 exact h
def J7:Ko [] Tryz.f235:=by apply Subtype.mk; cbv
def Ve:=J7.1
def H2:=cf.mk 2 [.tmp 3] (sub Ve 0)
def YR:cq [] Tryz.f235 H2:=cr (by kernel_rfl)
def aaj:=by
 have h:=aD Ve J7.1 0 (bn _)
 simp only [J7,cZ,simprocAttr] at h
 exact h
def Jm:Ko [] Tryz.f147:=by apply Subtype.mk; cbv
def UF:=Jm.1
def Hp:=cf.mk 2 [.eE 4 8,.tmp 5] (sub UF 0)
def XX:cq [] Tryz.f147 Hp:=cr (by kernel_rfl)
def T9:=by
 have h:=aD UF Jm.1 0 (bn _)
 simp only [Jm,cZ,simprocAttr] at h
 exact h
def adj:Ko [] Tryz.f42:=by apply Subtype.mk; cbv
def b42:=adj.1
def Wl:=cf.mk 2 [.tmp 4] (sub b42 0)
def adS:cq [] Tryz.f42 Wl:=cr (by kernel_rfl)
def adk:Ko [] Tryz.f43:=by apply Subtype.mk; cbv
def b43:=adk.1
def Wm:=cf.mk 3 [.tmp 6] (sub b43 0)
def adT:cq [] Tryz.f43 Wm:=cr (by kernel_rfl)
def adl:Ko [] Tryz.f44:=by apply Subtype.mk; cbv
def b44:=adl.1
def Wn:=cf.mk 2 [.tmp 4] (sub b44 0)
def adU:cq [] Tryz.f44 Wn:=cr (by kernel_rfl)
def adm:Ko [] Tryz.f45:=by apply Subtype.mk; cbv
def b45:=adm.1
def Wo:=cf.mk 2 [.tmp 4] (sub b45 0)
def adV:cq [] Tryz.f45 Wo:=cr (by kernel_rfl)
def adn:Ko [] Tryz.f46:=by apply Subtype.mk; cbv
def b46:=adn.1
def Wp:=cf.mk 2 [.tmp 4] (sub b46 0)
def adW:cq [] Tryz.f46 Wp:=cr (by kernel_rfl)
end Go.Proofs.YtahkjijkflobhaaGreatDoor
set_option linter.defProp false
set_option maxRecDepth 100000
namespace Go.Proofs.YtahkjijkflobhaaGreatDoor
open Go Go.Abs
def RM:Ko [] Tryz.f20:=by apply Subtype.mk; cbv
def b20:=RM.1
def Q4:=cf.mk 0 [.eE 0 10] (sub b20 0)
def adC:cq [] Tryz.f20 Q4:=cr (by kernel_rfl)
def E20:=by
 have h:=aD b20 RM.1 0 (bn _)
 simp only [RM,cZ,simprocAttr] at h
 exact h
def RP:Ko [] Tryz.f28:=by apply Subtype.mk; cbv
def b28:=RP.1
def Q7:=cf.mk 2 [] (sub b28 0)
def adH:cq [] Tryz.f28 Q7:=cr (by kernel_rfl)
def E28:=by
 have h:=aD b28 RP.1 0 (bn _)
 simp only [RP,cZ,simprocAttr] at h
 exact h
def Se:Ko [] Tryz.f78:=by apply Subtype.mk; cbv
def b78:=Se.1
def Rg:=cf.mk 1 [] (sub b78 0)
def aee:cq [] Tryz.f78 Rg:=cr (by kernel_rfl)
def E78:=by
 have h:=aD b78 Se.1 0 (bn _)
 simp only [Se,cZ,simprocAttr] at h
 exact h
def I1:Ko [] Tryz.f124:=by apply Subtype.mk; cbv
def Uq:=I1.1
def G9:=cf.mk 2 [.eE 4 6] (sub Uq 0)
def XB:cq [] Tryz.f124 G9:=cr (by kernel_rfl)
def Qa:=by
 have h:=aD Uq I1.1 0 (bn _)
 simp only [I1,cZ,simprocAttr] at h
 exact h
def JE:Ko [] Tryz.f194:=by apply Subtype.mk; cbv
def UR:=JE.1
def HC:=cf.mk 2 [.eE 4 6] (sub UR 0)
def Ym:cq [] Tryz.f194 HC:=cr (by kernel_rfl)
def aaa:=by
 have h:=aD UR JE.1 0 (bn _)
 simp only [JE,cZ,simprocAttr] at h
 exact h
def I2:Ko [] Tryz.f125:=by apply Subtype.mk; cbv
def Ur:=I2.1
def Ha:=cf.mk 2 [.tmp 4,.tmp 5] (sub Ur 0)
def XC:cq [] Tryz.f125 Ha:=cr (by kernel_rfl)
def Mb:=by
 have h:=aD Ur I2.1 0 (bn _)
 simp only [I2,cZ,simprocAttr] at h
 exact h
def I4:Ko [1000202] Tryz.f127:=by apply Subtype.mk; cbv
def Et:=I4.1
def Hc:=cf.mk 3 [] (sub Et 0)
def XE:cq [1000202] Tryz.f127 Hc:=cr (by kernel_rfl)
abbrev Nr:=sub Et 7
abbrev DG:=sub Et 32
abbrev DZ:=sub Et 46
abbrev OL:=sub Et 23
def kb:=by
 have h:=aD Et I4.1 0 (bn _)
 simp only [I4,cZ,simprocAttr] at h
 exact h
def JJ:Ko [] Tryz.f199:=by apply Subtype.mk; cbv
def UX:=JJ.1
def HH:=cf.mk 2 [.tmp 3] (sub UX 0)
def Yr:cq [] Tryz.f199 HH:=cr (by kernel_rfl)
def aab:=by
 have h:=aD UX JJ.1 0 (bn _)
 simp only [JJ,cZ,simprocAttr] at h
 exact h
def JL:Ko [] Tryz.f201:=by apply Subtype.mk; cbv
def QB:=JL.1
def z8:=cf.mk 2 [.tmp 4] (sub QB 0)
def Yu:cq [] Tryz.f201 z8:=cr (by kernel_rfl)
abbrev NB:=sub QB 17
def x6:=by
 have h:=aD QB JL.1 0 (bn _)
 simp only [JL,cZ,simprocAttr] at h
 exact h
def JM:Ko [] Tryz.f203:=by apply Subtype.mk; cbv
def UZ:=JM.1
def HJ:=cf.mk 2 [.tmp 3] (sub UZ 0)
def Yv:cq [] Tryz.f203 HJ:=cr (by kernel_rfl)
def aac:=by
 have h:=aD UZ JM.1 0 (bn _)
 simp only [JM,cZ,simprocAttr] at h
 exact h
def RQ:Ko [] Tryz.f32:=by apply Subtype.mk; cbv
def T2:=RQ.1
def Q8:=cf.mk 2 [.tmp 4] (sub T2 0)
def adL:cq [] Tryz.f32 Q8:=cr (by kernel_rfl)
abbrev Sy:=sub T2 31
abbrev Tx:=sub T2 55
abbrev Kz:=sub T2 9
abbrev LB:=sub T2 56
def Gs:=by
 have h:=aD T2 RQ.1 0 (bn _)
 simp only [RQ,cZ,simprocAttr] at h
 exact h
def Jb:Ko [] Tryz.f134:=by apply Subtype.mk; cbv
def Ux:=Jb.1
def Hj:=cf.mk 1 [.tmp 2] (sub Ux 0)
def XL:cq [] Tryz.f134 Hj:=cr (by kernel_rfl)
def Z3:=by
 have h:=aD Ux Jb.1 0 (bn _)
 simp only [Jb,cZ,simprocAttr] at h
 exact h
def RX:Ko [] Tryz.f61:=by apply Subtype.mk; cbv
def b61:=RX.1
def M4:=cf.mk 1 [] (sub b61 0)
def adX:cq [] Tryz.f61 M4:=cr (by kernel_rfl)
def E61:=by
 have h:=aD b61 RX.1 0 (bn _)
 simp only [RX,cZ,simprocAttr] at h
 exact h
def RY:Ko [] Tryz.f62:=by apply Subtype.mk; cbv
def b62:=RY.1
def E3:=cf.mk 1 [] (sub b62 0)
def adY:cq [] Tryz.f62 E3:=cr (by kernel_rfl)
def ZO:=by
 have h:=aD b62 RY.1 0 (bn _)
 simp only [RY,cZ,simprocAttr] at h
 exact h
def RZ:Ko [] Tryz.f63:=by apply Subtype.mk; cbv
def b63:=RZ.1
def Ci:=cf.mk 1 [] (sub b63 0)
def adZ:cq [] Tryz.f63 Ci:=cr (by kernel_rfl)
def Uj:=by
 have h:=aD b63 RZ.1 0 (bn _)
 simp only [RZ,cZ,simprocAttr] at h
 exact h
def R0:Ko [] Tryz.f64:=by apply Subtype.mk; cbv
def b64:=R0.1
def E4:=cf.mk 1 [] (sub b64 0)
def ad0:cq [] Tryz.f64 E4:=cr (by kernel_rfl)
def ZP:=by
 have h:=aD b64 R0.1 0 (bn _)
 simp only [R0,cZ,simprocAttr] at h
 exact h
def R1:Ko [] Tryz.f65:=by apply Subtype.mk; cbv
def b65:=R1.1
def Ae:=cf.mk 1 [] (sub b65 0)
def ad1:cq [] Tryz.f65 Ae:=cr (by kernel_rfl)
def TZ:=by
 have h:=aD b65 R1.1 0 (bn _)
 simp only [R1,cZ,simprocAttr] at h
 exact h
def R2:Ko [] Tryz.f66:=by apply Subtype.mk; cbv
def b66:=R2.1
def Ip:=cf.mk 1 [] (sub b66 0)
def ad2:cq [] Tryz.f66 Ip:=cr (by kernel_rfl)
def E66:=by
 have h:=aD b66 R2.1 0 (bn _)
 simp only [R2,cZ,simprocAttr] at h
 exact h
def Ja:Ko [3] Tryz.f133:=by apply Subtype.mk; cbv
def Mu:=Ja.1
def Hi:=cf.mk 1 [.tmp 2] (sub Mu 0)
def XK:cq [3] Tryz.f133 Hi:=cr (by kernel_rfl)
abbrev Ns:=sub Mu 9
abbrev Tg:=sub Mu 21
def Mc:=by
 have h:=aD Mu Ja.1 0 (bn _)
 simp only [Ja,cZ,simprocAttr] at h
 exact h
def R3:Ko [] Tryz.f67:=by apply Subtype.mk; cbv
def b67:=R3.1
def M5:=cf.mk 1 [] (sub b67 0)
def ad3:cq [] Tryz.f67 M5:=cr (by kernel_rfl)
def E67:=by
 have h:=aD b67 R3.1 0 (bn _)
 simp only [R3,cZ,simprocAttr] at h
 exact h
def R4:Ko [] Tryz.f68:=by apply Subtype.mk; cbv
def b68:=R4.1
def Iq:=cf.mk 1 [] (sub b68 0)
def ad4:cq [] Tryz.f68 Iq:=cr (by kernel_rfl)
def E68:=by
 have h:=aD b68 R4.1 0 (bn _)
 simp only [R4,cZ,simprocAttr] at h
 exact h
def R5:Ko [] Tryz.f69:=by apply Subtype.mk; cbv
def b69:=R5.1
def M6:=cf.mk 1 [] (sub b69 0)
def ad5:cq [] Tryz.f69 M6:=cr (by kernel_rfl)
def E69:=by
 have h:=aD b69 R5.1 0 (bn _)
 simp only [R5,cZ,simprocAttr] at h
 exact h
def Jf:Ko [] Tryz.f138:=by apply Subtype.mk; cbv
def UA:=Jf.1
def zX:=cf.mk 1 [.eE 2 6] (sub UA 0)
def XP:cq [] Tryz.f138 zX:=cr (by kernel_rfl)
def Qe:=by
 have h:=aD UA Jf.1 0 (bn _)
 simp only [Jf,cZ,simprocAttr] at h
 exact h
def R6:Ko [] Tryz.f70:=by apply Subtype.mk; cbv
def b70:=R6.1
def Cj:=cf.mk 1 [] (sub b70 0)
def ad6:cq [] Tryz.f70 Cj:=cr (by kernel_rfl)
def Uk:=by
 have h:=aD b70 R6.1 0 (bn _)
 simp only [R6,cZ,simprocAttr] at h
 exact h
def Jg:Ko [] Tryz.f140:=by apply Subtype.mk; cbv
def UB:=Jg.1
def zY:=cf.mk 3 [] (sub UB 0)
def XQ:cq [] Tryz.f140 zY:=cr (by kernel_rfl)
def Qf:=by
 have h:=aD UB Jg.1 0 (bn _)
 simp only [Jg,cZ,simprocAttr] at h
 exact h
def R7:Ko [1000139,2000140] Tryz.f71:=by apply Subtype.mk; cbv
def b71:=R7.1
def wu:=cf.mk 1 [] (sub b71 0)
def ad7:cq [1000139,2000140] Tryz.f71 wu:=cr (by kernel_rfl)
def Pb:=by
 have h:=aD b71 R7.1 0 (bn _)
 simp only [R7,cZ,simprocAttr] at h
 exact h
def R8:Ko [] Tryz.f72:=by apply Subtype.mk; cbv
def b72:=R8.1
def Ir:=cf.mk 1 [] (sub b72 0)
def ad8:cq [] Tryz.f72 Ir:=cr (by kernel_rfl)
def E72:=by
 have h:=aD b72 R8.1 0 (bn _)
 simp only [R8,cZ,simprocAttr] at h
 exact h
def R9:Ko [] Tryz.f73:=by apply Subtype.mk; cbv
def b73:=R9.1
def E5:=cf.mk 1 [] (sub b73 0)
def ad9:cq [] Tryz.f73 E5:=cr (by kernel_rfl)
def ZQ:=by
 have h:=aD b73 R9.1 0 (bn _)
 simp only [R9,cZ,simprocAttr] at h
 exact h
def Sa:Ko [] Tryz.f74:=by apply Subtype.mk; cbv
def b74:=Sa.1
def It:=cf.mk 1 [] (sub b74 0)
def aea:cq [] Tryz.f74 It:=cr (by kernel_rfl)
def E74:=by
 have h:=aD b74 Sa.1 0 (bn _)
 simp only [Sa,cZ,simprocAttr] at h
 exact h
def Sb:Ko [] Tryz.f75:=by apply Subtype.mk; cbv
def T3:=Sb.1
def Iu:=cf.mk 1 [] (sub T3 0)
def aeb:cq [] Tryz.f75 Iu:=cr (by kernel_rfl)
abbrev SC:=sub T3 15
abbrev SD:=sub T3 34
abbrev Ty:=sub T3 52
abbrev Tz:=sub T3 27
def C9:=by
 have h:=aD T3 Sb.1 0 (bn _)
 simp only [Sb,cZ,simprocAttr] at h
 exact h
def Jl:Ko [] Tryz.f146:=by apply Subtype.mk; cbv
def UE:=Jl.1
def Ho:=cf.mk 2 [.tmp 3] (sub UE 0)
def XW:cq [] Tryz.f146 Ho:=cr (by kernel_rfl)
def Z4:=by
 have h:=aD UE Jl.1 0 (bn _)
 simp only [Jl,cZ,simprocAttr] at h
 exact h
def Sc:Ko [] Tryz.f76:=by apply Subtype.mk; cbv
def b76:=Sc.1
def M7:=cf.mk 1 [] (sub b76 0)
def aec:cq [] Tryz.f76 M7:=cr (by kernel_rfl)
def E76:=by
 have h:=aD b76 Sc.1 0 (bn _)
 simp only [Sc,cZ,simprocAttr] at h
 exact h
def Sd:Ko [] Tryz.f77:=by apply Subtype.mk; cbv
def b77:=Sd.1
def Rf:=cf.mk 1 [] (sub b77 0)
def aed:cq [] Tryz.f77 Rf:=cr (by kernel_rfl)
def E77:=by
 have h:=aD b77 Sd.1 0 (bn _)
 simp only [Sd,cZ,simprocAttr] at h
 exact h
def RO:Ko [] Tryz.f27:=by apply Subtype.mk; cbv
def b27:=RO.1
def Q6:=cf.mk 0 [.tmp 0] (sub b27 0)
def adG:cq [] Tryz.f27 Q6:=cr (by kernel_rfl)
def E27:=by
 have h:=aD b27 RO.1 0 (bn _)
 simp only [RO,cZ,simprocAttr] at h
 exact h
def ade:Ko [] Tryz.f22:=by apply Subtype.mk; cbv
def b22:=ade.1
def Wf:=cf.mk 2 [.tmp 4] (sub b22 0)
def adF:cq [] Tryz.f22 Wf:=cr (by kernel_rfl)
def adi:Ko [] Tryz.f40:=by apply Subtype.mk; cbv
def b40:=adi.1
def Wj:=cf.mk 2 [.tmp 4] (sub b40 0)
def adQ:cq [] Tryz.f40 Wj:=cr (by kernel_rfl)
end Go.Proofs.YtahkjijkflobhaaGreatDoor
set_option linter.defProp false
set_option maxRecDepth 100000
namespace Go.Proofs.YtahkjijkflobhaaGreatDoor
open Go Go.Abs
def Kq:Ko [] Tryz.f273:=by apply Subtype.mk; cbv
def Vr:=Kq.1
def Ac:=cf.mk 2 [.tmp 4,.tmp 5] (sub Vr 0)
def Zc:cq [] Tryz.f273 Ac:=cr (by kernel_rfl)
def aas:=by
 have h:=aD Vr Kq.1 0 (bn _)
 simp only [Kq,cZ,simprocAttr] at h
 exact h
def Ku:Ko [] Tryz.f307:=by apply Subtype.mk; cbv
def Vt:=Ku.1
def Ad:=cf.mk 2 [.tmp 4,.tmp 5] (sub Vt 0)
def Zg:cq [] Tryz.f307 Ad:=cr (by kernel_rfl)
def Mm:=by
 have h:=aD Vt Ku.1 0 (bn _)
 simp only [Ku,cZ,simprocAttr] at h
 exact h
def Kv:Ko [] Tryz.f325:=by apply Subtype.mk; cbv
def Vu:=Kv.1
def wT:=cf.mk 2 [.tmp 4] (sub Vu 0)
def Zh:cq [] Tryz.f325 wT:=cr (by kernel_rfl)
def Mn:=by
 have h:=aD Vu Kv.1 0 (bn _)
 simp only [Kv,cZ,simprocAttr] at h
 exact h
end Go.Proofs.YtahkjijkflobhaaGreatDoor
set_option linter.defProp false
set_option maxRecDepth 100000
namespace Go.Proofs.YtahkjijkflobhaaGreatDoor
open Go Go.Abs
def ko8:Ko [] Tryz.f8:=by apply Subtype.mk; cbv
def b8:=ko8.1
def fn8:=cf.mk 1 [.tmp 2] (sub b8 0)
def ok8:cq [] Tryz.f8 fn8:=cr (by kernel_rfl)
abbrev Xu:=sub b8 35
abbrev Xv:=sub b8 19
def E8:=by
 have h:=aD b8 ko8.1 0 (bn _)
 simp only [ko8,cZ,simprocAttr] at h
 exact h
def PW:aO :=
 (.seq (.region [
 ob 0 (.mv (.dX (.bool false)))] false [0]) (.ret))
def PX:aO :=
 (.seq (.region [
 ob 110 (.cX 1 (.tmp 2)),
 ob 111 (.cB (.tmp 110)),
 ob 112 (.bin .eql (.tmp 111) (.dX (.int .i64 2))),
 ob 113 (.mv (.tmp 112)),
 og 114 113 true (.cX 1 (.tmp 3)),
 og 115 113 true (.cB (.tmp 114)),
 og 116 113 true (.bin .eql (.tmp 115) (.dX (.int .i64 3))),
 ob 117 (.pick (.tmp 113) (.tmp 116) (.dX (.bool false))),
 ob 118 (.mv (.tmp 117)),
 og 119 118 true (.cX 0 (.tmp 4)),
 og 120 118 true (.cB (.tmp 119)),
 og 121 118 true (.bin .eql (.tmp 120) (.dX (.int .i64 0))),
 ob 122 (.pick (.tmp 118) (.tmp 121) (.dX (.bool false))),
 ob 123 (.mv (.tmp 122)),
 og 124 123 true (.cX 4 (.tmp 5)),
 og 125 123 true (.cB (.tmp 124)),
 og 126 123 true (.bin .eql (.tmp 125) (.dX (.int .i64 3))),
 ob 127 (.pick (.tmp 123) (.tmp 126) (.dX (.bool false))),
 ob 128 (.mv (.tmp 127)),
 og 129 128 true (.cX 0 (.tmp 6)),
 og 130 128 true (.cB (.tmp 129)),
 og 131 128 true (.bin .eql (.tmp 130) (.dX (.int .i64 0))),
 ob 132 (.pick (.tmp 128) (.tmp 131) (.dX (.bool false))),
 ob 133 (.mv (.tmp 132)),
 og 134 133 true (.cX 1 (.tmp 7)),
 og 135 133 true (.cB (.tmp 134)),
 og 136 133 true (.bin .eql (.tmp 135) (.dX (.int .i64 3))),
 ob 137 (.pick (.tmp 133) (.tmp 136) (.dX (.bool false))),
 ob 138 (.mv (.tmp 137)),
 og 139 138 true (.cX 6 (.tmp 9)),
 og 140 138 true (.cB (.tmp 139)),
 og 141 138 true (.mq 1 (.tmp 140) (.dX (.int .i64 0))),
 og 142 138 true (.cB (.tmp 141)),
 og 143 138 true (.bin .eql (.tmp 142) (.dX (.int .u8 0))),
 ob 144 (.pick (.tmp 138) (.tmp 143) (.dX (.bool false))),
 ob 145 (.mv (.tmp 144)),
 og 146 145 true (.cX 6 (.tmp 9)),
 og 147 145 true (.cB (.tmp 146)),
 og 148 145 true (.mq 1 (.tmp 147) (.dX (.int .i64 2))),
 og 149 145 true (.cB (.tmp 148)),
 og 150 145 true (.bin .eql (.tmp 149) (.dX (.int .u8 8))),
 ob 151 (.pick (.tmp 145) (.tmp 150) (.dX (.bool false))),
 ob 152 (.mv (.tmp 151)),
 og 153 152 true (.cX 1 (.tmp 11)),
 og 154 152 true (.cB (.tmp 153)),
 og 155 152 true (.bin .eql (.tmp 154) (.dX (.int .i64 3))),
 ob 156 (.pick (.tmp 152) (.tmp 155) (.dX (.bool false))),
 ob 157 (.mv (.tmp 156)),
 og 158 157 true (.cX 6 (.tmp 11)),
 og 159 157 true (.cB (.tmp 158)),
 og 160 157 true (.mq 1 (.tmp 159) (.dX (.int .i64 1))),
 og 161 157 true (.cB (.tmp 160)),
 og 162 157 true (.bin .eql (.tmp 161) (.dX (.int .u8 7))),
 ob 163 (.pick (.tmp 157) (.tmp 162) (.dX (.bool false))),
 ob 164 (.mv (.tmp 163)),
 og 165 164 true (.cX 0 (.tmp 13)),
 og 166 164 true (.cB (.tmp 165)),
 og 167 164 true (.bin .eql (.tmp 166) (.dX (.int .i64 70))),
 ob 168 (.pick (.tmp 164) (.tmp 167) (.dX (.bool false))),
 ob 169 (.mv (.tmp 168)),
 og 170 169 true (.cX 0 (.tmp 14)),
 og 171 169 true (.cB (.tmp 170)),
 og 172 169 true (.bin .eql (.tmp 171) (.dX (.int .i64 0))),
 ob 173 (.pick (.tmp 169) (.tmp 172) (.dX (.bool false))),
 ob 174 (.mv (.tmp 173)),
 og 175 174 true (.cX 0 (.tmp 15)),
 og 176 174 true (.cB (.tmp 175)),
 og 177 174 true (.bin .eql (.tmp 176) (.dX (.int .i64 90))),
 ob 178 (.pick (.tmp 174) (.tmp 177) (.dX (.bool false))),
 ob 179 (.mv (.tmp 178)),
 og 180 179 true (.cX 0 (.tmp 16)),
 og 181 179 true (.cB (.tmp 180)),
 og 182 179 true (.bin .eql (.tmp 181) (.dX (.int .i64 0))),
 ob 183 (.pick (.tmp 179) (.tmp 182) (.dX (.bool false))),
 ob 184 (.mv (.tmp 183)),
 og 185 184 true (.cX 0 (.tmp 18)),
 og 186 184 true (.cB (.tmp 185)),
 og 187 184 true (.bin .eql (.tmp 186) (.dX (.int .i64 1))),
 ob 188 (.pick (.tmp 184) (.tmp 187) (.dX (.bool false))),
 ob 189 (.mv (.tmp 188)),
 og 190 189 true (.cX 0 (.tmp 1)),
 og 191 189 true (.cX 0 (.tmp 190)),
 og 192 189 true (.cX 0 (.tmp 191)),
 og 193 189 true (.cB (.tmp 192)),
 og 194 189 true (.vr (.tmp 193)),
 og 195 189 true (.bin .eql (.tmp 194) (.dX (.int .i64 2))),
 ob 196 (.pick (.tmp 189) (.tmp 195) (.dX (.bool false))),
 ob 197 (.mv (.tmp 196)),
 og 198 197 true (.eG 10 (.tmp 1)),
 og 199 197 true (.call 15 [(.tmp 198)]),
 ob 200 (.pick (.tmp 197) (.tmp 199) (.dX (.bool false))),
 ob 201 (.mv (.tmp 200)),
 og 202 201 true (.build [(.slice .c0 []),(.int .i64 0),(.int .i64 0),(.int .i64 0),(.slice .c0 []),(.slice .c0 []),(.slice .c0 []),(.int .i64 0),(.slice .c0 []),(.slice .c0 [])] []),
 og 203 201 true (.call 15 [(.tmp 202)]),
 og 204 201 true (.not (.tmp 203)),
 ob 205 (.pick (.tmp 201) (.tmp 204) (.dX (.bool false))),
 ob 206 (.mv (.tmp 205)),
 og 207 206 true (.eG 10 (.tmp 1)),
 ⟨(some 208),.call 20 [],(some (206,true)),true,false,[],true⟩,
 og 209 206 true (.call 22 [(.tmp 207),(.tmp 208)]),
 og 210 206 true (.not (.tmp 209)),
 ob 211 (.pick (.tmp 206) (.tmp 210) (.dX (.bool false))),
 ob 0 (.mv (.tmp 211))] true [0]) (.ret))
def PY:aO :=
 (.seq (.seq (.region [
 ob 100 (.cX 6 (.tmp 9)),
 ob 101 (.cB (.tmp 100)),
 ob 102 (.vr (.tmp 101)),
 ob 103 (.bin .neq (.tmp 102) (.dX (.int .i64 3))),
 ob 104 (.mv (.tmp 103)),
 og 105 104 false (.cX 6 (.tmp 11)),
 og 106 104 false (.cB (.tmp 105)),
 og 107 104 false (.vr (.tmp 106)),
 og 108 104 false (.bin .neq (.tmp 107) (.dX (.int .i64 3))),
 ob 109 (.pick (.tmp 104) (.dX (.bool true)) (.tmp 108))] false [1,2,3,4,5,6,7,9,11,13,14,15,16,18,109]) (.cond (.tmp 109) PW (.skip))) PX)
def PZ:aO :=
 (.seq (.region [
 ob 95 (.eG 10 (.tmp 1)),
 ob 96 (.build [(.int .i64 0),(.int .i64 0),(.str []),(.str []),(.int .i64 0),(.int .i64 0),(.int .i64 0),(.slice .c0 [])] [(0,1,(.dX (.int .i64 99)))]),
 ob 97 (.call 14 [(.tmp 95),(.tmp 96)]),
 ob 94 (.mv (.tmp 97)),
 ob 98 (.extract (.tmp 94) 0),
 ob 99 (.extract (.tmp 94) 1),
 ob 17 (.ib [(.slice .c0 []),(.int .i64 0),(.int .i64 0),(.int .i64 0),(.slice .c0 []),(.slice .c0 []),(.slice .c0 []),(.int .i64 0),(.slice .c0 []),(.slice .c0 [])]),
 ob 18 (.ib [(.int .i64 0),(.int .i64 0),(.int .i64 0),(.int .i64 0),(.int .i64 0),(.slice .c0 []),(.slice .c0 [])]),
 ox (.store 10 (.tmp 17) (.tmp 98)),
 ox (.store 7 (.tmp 18) (.tmp 99))] false [1,2,3,4,5,6,7,9,11,13,14,15,16,18]) PY)
def P0:aO :=
 (.seq (.region [
 ob 89 (.eG 10 (.tmp 1)),
 ob 90 (.build [(.int .i64 0),(.int .i64 0),(.str []),(.str []),(.int .i64 0),(.int .i64 0),(.int .i64 0),(.slice .c0 [])] [(0,1,(.dX (.int .i64 9))),(6,1,(.dX (.int .i64 4)))]),
 ob 91 (.call 14 [(.tmp 89),(.tmp 90)]),
 ob 88 (.mv (.tmp 91)),
 ob 92 (.extract (.tmp 88) 0),
 ob 93 (.extract (.tmp 88) 1),
 ob 16 (.ib [(.int .i64 0),(.int .i64 0),(.int .i64 0),(.int .i64 0),(.int .i64 0),(.slice .c0 []),(.slice .c0 [])]),
 ox (.store 10 (.tmp 1) (.tmp 92)),
 ox (.store 7 (.tmp 16) (.tmp 93))] false [1,2,3,4,5,6,7,9,11,13,14,15,16]) PZ)
def P1:aO :=
 (.seq (.region [
 ob 83 (.eG 10 (.tmp 1)),
 ob 84 (.build [(.int .i64 0),(.int .i64 0),(.str []),(.str []),(.int .i64 0),(.int .i64 0),(.int .i64 0),(.slice .c0 [])] [(0,1,(.dX (.int .i64 2))),(2,1,(.dX (.str [47,101]))),(4,1,(.dX (.int .i64 2)))]),
 ob 85 (.call 14 [(.tmp 83),(.tmp 84)]),
 ob 82 (.mv (.tmp 85)),
 ob 86 (.extract (.tmp 82) 0),
 ob 87 (.extract (.tmp 82) 1),
 ob 15 (.ib [(.int .i64 0),(.int .i64 0),(.int .i64 0),(.int .i64 0),(.int .i64 0),(.slice .c0 []),(.slice .c0 [])]),
 ox (.store 10 (.tmp 1) (.tmp 86)),
 ox (.store 7 (.tmp 15) (.tmp 87))] false [1,2,3,4,5,6,7,9,11,13,14,15]) P0)
def P2:aO :=
 (.seq (.region [
 ob 77 (.eG 10 (.tmp 1)),
 ob 78 (.build [(.int .i64 0),(.int .i64 0),(.str []),(.str []),(.int .i64 0),(.int .i64 0),(.int .i64 0),(.slice .c0 [])] [(0,1,(.dX (.int .i64 13))),(2,1,(.dX (.str [47]))),(4,1,(.dX (.int .i64 1))),(5,1,(.dX (.int .i64 10)))]),
 ob 79 (.call 14 [(.tmp 77),(.tmp 78)]),
 ob 76 (.mv (.tmp 79)),
 ob 80 (.extract (.tmp 76) 0),
 ob 81 (.extract (.tmp 76) 1),
 ob 14 (.ib [(.int .i64 0),(.int .i64 0),(.int .i64 0),(.int .i64 0),(.int .i64 0),(.slice .c0 []),(.slice .c0 [])]),
 ox (.store 10 (.tmp 1) (.tmp 80)),
 ox (.store 7 (.tmp 14) (.tmp 81))] false [1,2,3,4,5,6,7,9,11,13,14]) P1)
def P3:aO :=
 (.seq (.region [
 ob 71 (.eG 10 (.tmp 1)),
 ob 72 (.build [(.int .i64 0),(.int .i64 0),(.str []),(.str []),(.int .i64 0),(.int .i64 0),(.int .i64 0),(.slice .c0 [])] [(0,1,(.dX (.int .i64 1))),(2,1,(.dX (.str [47,100,47,102])))]),
 ob 73 (.call 14 [(.tmp 71),(.tmp 72)]),
 ob 70 (.mv (.tmp 73)),
 ob 74 (.extract (.tmp 70) 0),
 ob 75 (.extract (.tmp 70) 1),
 ob 12 (.ib [(.slice .c0 []),(.int .i64 0),(.int .i64 0),(.int .i64 0),(.slice .c0 []),(.slice .c0 []),(.slice .c0 []),(.int .i64 0),(.slice .c0 []),(.slice .c0 [])]),
 ob 13 (.ib [(.int .i64 0),(.int .i64 0),(.int .i64 0),(.int .i64 0),(.int .i64 0),(.slice .c0 []),(.slice .c0 [])]),
 ox (.store 10 (.tmp 12) (.tmp 74)),
 ox (.store 7 (.tmp 13) (.tmp 75))] false [1,2,3,4,5,6,7,9,11,13]) P2)
def P4:aO :=
 (.seq (.region [
 ob 63 (.eG 10 (.tmp 1)),
 ob 64 (.cX 3 (.tmp 6)),
 ob 65 (.cB (.tmp 64)),
 ob 66 (.build [(.int .i64 0),(.int .i64 0),(.str []),(.str []),(.int .i64 0),(.int .i64 0),(.int .i64 0),(.slice .c0 [])] [(0,1,(.dX (.int .i64 15))),(4,1,(.tmp 65)),(2,1,(.dX (.str [47,102])))]),
 ob 67 (.call 14 [(.tmp 63),(.tmp 66)]),
 ob 62 (.mv (.tmp 67)),
 ob 68 (.extract (.tmp 62) 0),
 ob 69 (.extract (.tmp 62) 1),
 ob 10 (.ib [(.slice .c0 []),(.int .i64 0),(.int .i64 0),(.int .i64 0),(.slice .c0 []),(.slice .c0 []),(.slice .c0 []),(.int .i64 0),(.slice .c0 []),(.slice .c0 [])]),
 ob 11 (.ib [(.int .i64 0),(.int .i64 0),(.int .i64 0),(.int .i64 0),(.int .i64 0),(.slice .c0 []),(.slice .c0 [])]),
 ox (.store 10 (.tmp 10) (.tmp 68)),
 ox (.store 7 (.tmp 11) (.tmp 69))] false [1,2,3,4,5,6,7,9,11]) P3)
def P5:aO :=
 (.seq (.region [
 ob 57 (.eG 10 (.tmp 1)),
 ob 58 (.build [(.int .i64 0),(.int .i64 0),(.str []),(.str []),(.int .i64 0),(.int .i64 0),(.int .i64 0),(.slice .c0 [])] [(0,1,(.dX (.int .i64 10))),(6,1,(.dX (.int .i64 4))),(5,1,(.dX (.int .i64 9)))]),
 ob 59 (.call 14 [(.tmp 57),(.tmp 58)]),
 ob 56 (.mv (.tmp 59)),
 ob 60 (.extract (.tmp 56) 0),
 ob 61 (.extract (.tmp 56) 1),
 ob 8 (.ib [(.slice .c0 []),(.int .i64 0),(.int .i64 0),(.int .i64 0),(.slice .c0 []),(.slice .c0 []),(.slice .c0 []),(.int .i64 0),(.slice .c0 []),(.slice .c0 [])]),
 ob 9 (.ib [(.int .i64 0),(.int .i64 0),(.int .i64 0),(.int .i64 0),(.int .i64 0),(.slice .c0 []),(.slice .c0 [])]),
 ox (.store 10 (.tmp 8) (.tmp 60)),
 ox (.store 7 (.tmp 9) (.tmp 61))] false [1,2,3,4,5,6,7,9]) P4)
def Lv:aO :=
 (.seq (.region [
 ob 51 (.eG 10 (.tmp 1)),
 ob 52 (.build [(.int .i64 0),(.int .i64 0),(.str []),(.str []),(.int .i64 0),(.int .i64 0),(.int .i64 0),(.slice .c0 [])] [(0,1,(.dX (.int .i64 4))),(2,1,(.dX (.str [47,100,47,102])))]),
 ob 53 (.call 14 [(.tmp 51),(.tmp 52)]),
 ob 50 (.mv (.tmp 53)),
 ob 54 (.extract (.tmp 50) 0),
 ob 55 (.extract (.tmp 50) 1),
 ob 7 (.ib [(.int .i64 0),(.int .i64 0),(.int .i64 0),(.int .i64 0),(.int .i64 0),(.slice .c0 []),(.slice .c0 [])]),
 ox (.store 10 (.tmp 1) (.tmp 54)),
 ox (.store 7 (.tmp 7) (.tmp 55))] false [1,2,3,4,5,6,7]) P5)
def Lw:aO :=
 (.seq (.region [
 ob 45 (.eG 10 (.tmp 1)),
 ob 46 (.build [(.int .i64 0),(.int .i64 0),(.str []),(.str []),(.int .i64 0),(.int .i64 0),(.int .i64 0),(.slice .c0 [])] [(0,1,(.dX (.int .i64 14))),(2,1,(.dX (.str [47,100])))]),
 ob 47 (.call 14 [(.tmp 45),(.tmp 46)]),
 ob 44 (.mv (.tmp 47)),
 ob 48 (.extract (.tmp 44) 0),
 ob 49 (.extract (.tmp 44) 1),
 ob 6 (.ib [(.int .i64 0),(.int .i64 0),(.int .i64 0),(.int .i64 0),(.int .i64 0),(.slice .c0 []),(.slice .c0 [])]),
 ox (.store 10 (.tmp 1) (.tmp 48)),
 ox (.store 7 (.tmp 6) (.tmp 49))] false [1,2,3,4,5,6]) Lv)
def Lx:aO :=
 (.seq (.region [
 ob 38 (.eG 10 (.tmp 1)),
 ob 39 (.lits 1 [(.dX (.int .u8 7)),(.dX (.int .u8 8))]),
 ob 40 (.build [(.int .i64 0),(.int .i64 0),(.str []),(.str []),(.int .i64 0),(.int .i64 0),(.int .i64 0),(.slice .c0 [])] [(0,1,(.dX (.int .i64 11))),(6,1,(.dX (.int .i64 4))),(4,1,(.dX (.int .i64 1))),(7,1,(.tmp 39))]),
 ob 41 (.call 14 [(.tmp 38),(.tmp 40)]),
 ob 37 (.mv (.tmp 41)),
 ob 42 (.extract (.tmp 37) 0),
 ob 43 (.extract (.tmp 37) 1),
 ob 5 (.ib [(.int .i64 0),(.int .i64 0),(.int .i64 0),(.int .i64 0),(.int .i64 0),(.slice .c0 []),(.slice .c0 [])]),
 ox (.store 10 (.tmp 1) (.tmp 42)),
 ox (.store 7 (.tmp 5) (.tmp 43))] false [1,2,3,4,5]) Lw)
def Ly:aO :=
 (.seq (.region [
 ob 32 (.eG 10 (.tmp 1)),
 ob 33 (.build [(.int .i64 0),(.int .i64 0),(.str []),(.str []),(.int .i64 0),(.int .i64 0),(.int .i64 0),(.slice .c0 [])] [(0,1,(.dX (.int .i64 8))),(2,1,(.dX (.str [47,100,47,102]))),(6,1,(.dX (.int .i64 4)))]),
 ob 34 (.call 14 [(.tmp 32),(.tmp 33)]),
 ob 31 (.mv (.tmp 34)),
 ob 35 (.extract (.tmp 31) 0),
 ob 36 (.extract (.tmp 31) 1),
 ob 4 (.ib [(.int .i64 0),(.int .i64 0),(.int .i64 0),(.int .i64 0),(.int .i64 0),(.slice .c0 []),(.slice .c0 [])]),
 ox (.store 10 (.tmp 1) (.tmp 35)),
 ox (.store 7 (.tmp 4) (.tmp 36))] false [1,2,3,4]) Lx)
def Lz:aO :=
 (.seq (.region [
 ob 26 (.eG 10 (.tmp 1)),
 ob 27 (.build [(.int .i64 0),(.int .i64 0),(.str []),(.str []),(.int .i64 0),(.int .i64 0),(.int .i64 0),(.slice .c0 [])] [(0,1,(.dX (.int .i64 2))),(2,1,(.dX (.str [47,100,47,102]))),(4,1,(.dX (.int .i64 1)))]),
 ob 28 (.call 14 [(.tmp 26),(.tmp 27)]),
 ob 25 (.mv (.tmp 28)),
 ob 29 (.extract (.tmp 25) 0),
 ob 30 (.extract (.tmp 25) 1),
 ob 3 (.ib [(.int .i64 0),(.int .i64 0),(.int .i64 0),(.int .i64 0),(.int .i64 0),(.slice .c0 []),(.slice .c0 [])]),
 ox (.store 10 (.tmp 1) (.tmp 29)),
 ox (.store 7 (.tmp 3) (.tmp 30))] false [1,2,3]) Ly)
def LA:aO :=
 (.seq (.region [
 ob 20 (.call 20 []),
 ob 21 (.build [(.int .i64 0),(.int .i64 0),(.str []),(.str []),(.int .i64 0),(.int .i64 0),(.int .i64 0),(.slice .c0 [])] [(0,1,(.dX (.int .i64 2))),(2,1,(.dX (.str [47,100]))),(4,1,(.dX (.int .i64 2)))]),
 ob 22 (.call 14 [(.tmp 20),(.tmp 21)]),
 ob 19 (.mv (.tmp 22)),
 ob 23 (.extract (.tmp 19) 0),
 ob 24 (.extract (.tmp 19) 1),
 ob 1 (.ib [(.slice .c0 []),(.int .i64 0),(.int .i64 0),(.int .i64 0),(.slice .c0 []),(.slice .c0 []),(.slice .c0 []),(.int .i64 0),(.slice .c0 []),(.slice .c0 [])]),
 ob 2 (.ib [(.int .i64 0),(.int .i64 0),(.int .i64 0),(.int .i64 0),(.int .i64 0),(.slice .c0 []),(.slice .c0 [])]),
 ox (.store 10 (.tmp 1) (.tmp 23)),
 ox (.store 7 (.tmp 2) (.tmp 24))] false [1,2]) Lz)
def E10:=And.intro (eo PW.eq_1) (And.intro (eo PX.eq_1) (And.intro (eo PY.eq_1) (And.intro (eo PZ.eq_1) (And.intro (eo P0.eq_1) (And.intro (eo P1.eq_1) (And.intro (eo P2.eq_1) (And.intro (eo P3.eq_1) (And.intro (eo P4.eq_1) (And.intro (eo P5.eq_1) (And.intro (eo Lv.eq_1) (And.intro (eo Lw.eq_1) (And.intro (eo Lx.eq_1) (And.intro (eo Ly.eq_1) (And.intro (eo Lz.eq_1) (eo LA.eq_1)))))))))))))))
def Uo:we:={ n:=212,own:=[],lv:=[(0,[]),(1,[1,2]),(2,[1,2,3]),(3,[1,2,3,4]),(4,[1,2,3,4,5]),(5,[1,2,3,4,5,6]),(6,[1,2,3,4,5,6,7]),(7,[1,2,3,4,5,6,7,9]),(8,[1,2,3,4,5,6,7,9,11]),(9,[1,2,3,4,5,6,7,9,11,13]),(10,[1,2,3,4,5,6,7,9,11,13,14]),(11,[1,2,3,4,5,6,7,9,11,13,14,15]),(12,[1,2,3,4,5,6,7,9,11,13,14,15,16]),(13,[1,2,3,4,5,6,7,9,11,13,14,15,16,18]),(14,[1,2,3,4,5,6,7,9,11,13,14,15,16,18,109]),(15,[0]),(16,[0])],lp:=[] }
def Q0:cf:=cf.mk 0 [.tmp 0]
 (.seq (.region [
 ob 0 (.mv (.dX (.bool false)))] false []) LA)
def adx:jv Tryz.prog Uo Tryz.f10=some Q0:=by kernel_rfl
def RH:Ko [] Tryz.f11:=by apply Subtype.mk; cbv
def b11:=RH.1
def Q1:=cf.mk 1 [.tmp 2] (sub b11 0)
def ady:cq [] Tryz.f11 Q1:=cr (by kernel_rfl)
def Z2:=by
 have h:=aD b11 RH.1 0 (bn _)
 simp only [RH,cZ,simprocAttr] at h
 exact h
def RI:Ko [] Tryz.f12:=by apply Subtype.mk; cbv
def b12:=RI.1
def Q2:=cf.mk 1 [.tmp 2] (sub b12 0)
def adz:cq [] Tryz.f12 Q2:=cr (by kernel_rfl)
def E12:=by
 have h:=aD b12 RI.1 0 (bn _)
 simp only [RI,cZ,simprocAttr] at h
 exact h
def RN:Ko [5000016] Tryz.f21:=by apply Subtype.mk; cbv
def U4:=RN.1
def Q5:=cf.mk 2 [.tmp 4,.tmp 5] (sub U4 0)
def adE:cq [5000016] Tryz.f21 Q5:=cr (by kernel_rfl)
abbrev Sv:=sub U4 45
abbrev Sw:=sub U4 33
abbrev Sx:=sub U4 13
def C8:=by
 have h:=aD U4 RN.1 0 (bn _)
 simp only [RN,cZ,simprocAttr] at h
 exact h
end Go.Proofs.YtahkjijkflobhaaGreatDoor
set_option linter.defProp false
set_option maxRecDepth 100000
namespace Go.Proofs.YtahkjijkflobhaaGreatDoor
open Go Go.Abs
def adb:Ko [] Tryz.f15:=by apply Subtype.mk; cbv
def b15:=adb.1
def We:=cf.mk 1 [.tmp 2] (sub b15 0)
def adA:cq [] Tryz.f15 We:=cr (by kernel_rfl)
def adf:Ko [] Tryz.f29:=by apply Subtype.mk; cbv
def b29:=adf.1
def Wg:=cf.mk 1 [.tmp 2] (sub b29 0)
def adI:cq [] Tryz.f29 Wg:=cr (by kernel_rfl)
def adg:Ko [] Tryz.f30:=by apply Subtype.mk; cbv
def b30:=adg.1
def Wh:=cf.mk 2 [.tmp 4] (sub b30 0)
def adJ:cq [] Tryz.f30 Wh:=cr (by kernel_rfl)
def adh:Ko [] Tryz.f31:=by apply Subtype.mk; cbv
def b31:=adh.1
def Wi:=cf.mk 2 [.tmp 4] (sub b31 0)
def adK:cq [] Tryz.f31 Wi:=cr (by kernel_rfl)
def ado:Ko [] Tryz.f79:=by apply Subtype.mk; cbv
def b79:=ado.1
def Wq:=cf.mk 1 [.tmp 2] (sub b79 0)
def aef:cq [] Tryz.f79 Wq:=cr (by kernel_rfl)
def adq:Ko [] Tryz.f80:=by apply Subtype.mk; cbv
def b80:=adq.1
def Wr:=cf.mk 2 [.tmp 4] (sub b80 0)
def aeg:cq [] Tryz.f80 Wr:=cr (by kernel_rfl)
def ads:Ko [] Tryz.f82:=by apply Subtype.mk; cbv
def b82:=ads.1
def Wt:=cf.mk 1 [.tmp 2] (sub b82 0)
def aei:cq [] Tryz.f82 Wt:=cr (by kernel_rfl)
def adt:Ko [] Tryz.f83:=by apply Subtype.mk; cbv
def b83:=adt.1
def Wu:=cf.mk 1 [.tmp 2] (sub b83 0)
def aej:cq [] Tryz.f83 Wu:=cr (by kernel_rfl)
def Xl:Ko [] Tryz.f149:=by apply Subtype.mk; cbv
def aaD:=Xl.1
def Pz:=cf.mk 1 [.tmp 2,.tmp 3] (sub aaD 0)
def XZ:cq [] Tryz.f149 Pz:=cr (by kernel_rfl)
def Xm:Ko [] Tryz.f150:=by apply Subtype.mk; cbv
def aaE:=Xm.1
def PB:=cf.mk 4 [.tmp 8] (sub aaE 0)
def X2:cq [] Tryz.f150 PB:=cr (by kernel_rfl)
def Xn:Ko [] Tryz.f151:=by apply Subtype.mk; cbv
def aaF:=Xn.1
def PC:=cf.mk 2 [.tmp 4] (sub aaF 0)
def X3:cq [] Tryz.f151 PC:=cr (by kernel_rfl)
def Xp:Ko [] Tryz.f156:=by apply Subtype.mk; cbv
def aaH:=Xp.1
def PE:=cf.mk 2 [.tmp 4] (sub aaH 0)
def X8:cq [] Tryz.f156 PE:=cr (by kernel_rfl)
def Tm:aO :=
 (.seq (.region [
 ob 4 (.mv (.dX (.bool false)))] false [4]) (.ret))
def Tn:aO :=
 (.seq (.region [
 ob 26 (.mv (.tmp 9)),
 ob 27 (.not (.tmp 26)),
 ob 28 (.mv (.tmp 27)),
 og 29 28 false (.cX 0 (.tmp 7)),
 og 30 28 false (.cB (.tmp 29)),
 og 31 28 false (.call 207 [(.tmp 30)]),
 og 32 28 false (.not (.tmp 31)),
 ob 33 (.pick (.tmp 28) (.dX (.bool true)) (.tmp 32)),
 ob 34 (.mv (.tmp 33)),
 og 35 34 false (.cX 2 (.tmp 7)),
 og 36 34 false (.cB (.tmp 35)),
 og 37 34 false (.bin .lss (.tmp 36) (.dX (.int .i64 1))),
 ob 38 (.pick (.tmp 34) (.dX (.bool true)) (.tmp 37)),
 ob 39 (.mv (.tmp 38)),
 og 40 39 false (.cX 2 (.tmp 7)),
 og 41 39 false (.cB (.tmp 40)),
 og 42 39 false (.mv (.tmp 0)),
 og 43 39 false (.MH (.tmp 42)),
 og 44 39 false (.cX 0 (.tmp 43)),
 og 45 39 false (.cX 2 (.tmp 44)),
 og 46 39 false (.cB (.tmp 45)),
 og 47 39 false (.bin .geq (.tmp 41) (.tmp 46)),
 ob 48 (.pick (.tmp 39) (.dX (.bool true)) (.tmp 47)),
 ob 49 (.mv (.tmp 48)),
 og 50 49 false (.mv (.tmp 5)),
 og 51 49 false (.cX 2 (.tmp 7)),
 og 52 49 false (.cB (.tmp 51)),
 og 53 49 false (.look .i (.bool false) false (.tmp 50) (.tmp 52)),
 ob 54 (.pick (.tmp 49) (.dX (.bool true)) (.tmp 53)),
 ob 55 (.mv (.tmp 54)),
 og 56 55 false (.mv (.tmp 6)),
 og 57 55 false (.bin .gtr (.tmp 56) (.dX (.int .i64 0))),
 og 58 55 false (.mv (.tmp 57)),
 og 59 58 true (.cX 4 (.tmp 3)),
 og 60 58 true (.cB (.tmp 59)),
 og 61 58 true (.mv (.tmp 6)),
 og 62 58 true (.bin .sub (.tmp 61) (.dX (.int .i64 1))),
 og 63 58 true (.mq 3 (.tmp 60) (.tmp 62)),
 og 64 58 true (.cX 0 (.tmp 63)),
 og 65 58 true (.cB (.tmp 64)),
 og 66 58 true (.cX 0 (.tmp 7)),
 og 67 58 true (.cB (.tmp 66)),
 og 68 58 true (.bin .geq (.tmp 65) (.tmp 67)),
 og 69 55 false (.pick (.tmp 58) (.tmp 68) (.dX (.bool false))),
 ob 70 (.pick (.tmp 55) (.dX (.bool true)) (.tmp 69))] true [0,3,5,7,12,13,14,70]) (.cond (.tmp 70) Tm (.skip)))
def Tp:aO :=
 (.region [
 ob 71 (.mv (.tmp 5)),
 ob 72 (.cX 2 (.tmp 7)),
 ob 73 (.cB (.tmp 72)),
 ox (.bX .i (.tmp 71) (.tmp 73) (.dX (.bool true)))] false [0,3,5,12,13,14])
def Tq:aO :=
 (.seq (.seq (.region [
 ob 20 (.mv (.tmp 0)),
 ob 21 (.cX 1 (.tmp 7)),
 ob 22 (.cB (.tmp 21)),
 ob 23 (.call 243 [(.tmp 20),(.tmp 22)]),
 ob 19 (.mv (.tmp 23)),
 ob 24 (.extract (.tmp 19) 0),
 ob 25 (.extract (.tmp 19) 1),
 ob 8 (.mv (.tmp 24)),
 ob 9 (.mv (.tmp 25))] false [0,3,5,6,7,9,12,13,14]) Tn) Tp)
def Tr:aO :=
 (.region [
 ob 74 (.bin .add (.tmp 14) (.dX (.int .i64 1))),
 ob 14 (.mv (.tmp 74))] false [0,3,5,12,13,14])
def Ts:aO :=
 (.seq (.block 1 (.seq (.region [
 ob 16 (.mv (.tmp 14)),
 ob 17 (.mq 3 (.tmp 12) (.tmp 14)),
 ob 18 (.eG 3 (.tmp 17)),
 ob 7 (.ib [(.str []),(.int .i64 0),(.int .i64 0)]),
 ob 6 (.mv (.tmp 16)),
 ox (.store 3 (.tmp 7) (.tmp 18))] false [0,3,5,6,7,12,13,14]) Tq)) Tr)
def Tt:aO :=
 (.seq (.cond (.tmp 15) (.skip) (.exit 0)) Ts)
def NI:aO :=
 (.seq (.region [
 ob 15 (.bin .lss (.tmp 14) (.tmp 13))] false [0,3,5,12,13,14,15]) Tt)
def Tu:aO :=
 (.block 0 (.loop [0,3,5,12,13,14] NI))
def Tv:aO :=
 (.seq (.region [
 ob 75 (.cX 4 (.tmp 3)),
 ob 76 (.cB (.tmp 75)),
 ob 77 (.vr (.tmp 76)),
 ob 78 (.bin .leq (.tmp 77) (.dX (.int .i64 64))),
 ob 4 (.mv (.tmp 78))] false [4]) (.ret))
def Tw:aO :=
 (.seq (.seq (.region [
 ob 11 (.cX 4 (.tmp 3)),
 ob 12 (.cB (.tmp 11)),
 ob 13 (.vr (.tmp 12)),
 ob 14 (.mv (.dX (.int .i64 0)))] false [0,3,5,12,13,14]) Tu) Tv)
def OO:aO :=
 (.seq (.region [
 ob 10 (.mkMap),
 ob 5 (.mv (.tmp 10))] false [0,3,5]) Tw)
def Qq:we:={ n:=79,own:=[],lv:=[(0,[0,3]),(1,[0,3,5]),(2,[0,3,5,12,13,14]),(3,[0,3,5,12,13,14,15]),(4,[0,3,5,6,7,12,13,14]),(5,[0,3,5,6,7,9,12,13,14]),(6,[0,3,5,7,12,13,14,70]),(7,[4]),(8,[0,3,5,12,13,14]),(9,[0,3,5,12,13,14]),(10,[4])],lp:=[(3,[0,3,5,12,13,14])] }
def PH:cf:=cf.mk 2 [.tmp 4]
 (.seq (.region [
 ob 3 (.box (.tmp 1)),
 ob 4 (.mv (.dX (.bool false)))] false [0,3]) OO)
def YT:jv Tryz.prog Qq Tryz.f236=some PH:=by kernel_rfl
def Xt:Ko [] Tryz.f240:=by apply Subtype.mk; cbv
def aaK:=Xt.1
def PI:=cf.mk 2 [.tmp 4] (sub aaK 0)
def YX:cq [] Tryz.f240 PI:=cr (by kernel_rfl)
def adr:Ko [] Tryz.f81:=by apply Subtype.mk; cbv
def b81:=adr.1
def Ws:=cf.mk 2 [.tmp 3] (sub b81 0)
def aeh:cq [] Tryz.f81 Ws:=cr (by kernel_rfl)
def adu:Ko [] Tryz.f91:=by apply Subtype.mk; cbv
def b91:=adu.1
def Wv:=cf.mk 2 [.tmp 3] (sub b91 0)
def aer:cq [] Tryz.f91 Wv:=cr (by kernel_rfl)
def Xo:Ko [] Tryz.f155:=by apply Subtype.mk; cbv
def aaG:=Xo.1
def PD:=cf.mk 2 [.tmp 3] (sub aaG 0)
def X7:cq [] Tryz.f155 PD:=cr (by kernel_rfl)
end Go.Proofs.YtahkjijkflobhaaGreatDoor
set_option linter.defProp false
set_option maxRecDepth 100000
namespace Go.Proofs.YtahkjijkflobhaaGreatDoor
open Go Go.Abs
def RR:Ko [] Tryz.f34:=by apply Subtype.mk; cbv
def b34:=RR.1
def Q9:=cf.mk 2 [.tmp 4] (sub b34 0)
def adM:cq [] Tryz.f34 Q9:=cr (by kernel_rfl)
abbrev SA:=sub b34 7
def Qm:=by
 have h:=aD b34 RR.1 0 (bn _)
 simp only [RR,cZ,simprocAttr] at h
 exact h
def RJ:Ko [] Tryz.f18:=by apply Subtype.mk; cbv
def b18:=RJ.1
def Q3:=cf.mk 2 [.eE 4 6,.tmp 5] (sub b18 0)
def adB:cq [] Tryz.f18 Q3:=cr (by kernel_rfl)
def Z9:=by
 have h:=aD b18 RJ.1 0 (bn _)
 simp only [RJ,cZ,simprocAttr] at h
 exact h
def RU:Ko [] Tryz.f39:=by apply Subtype.mk; cbv
def b39:=RU.1
def Rc:=cf.mk 3 [.tmp 6] (sub b39 0)
def adP:cq [] Tryz.f39 Rc:=cr (by kernel_rfl)
abbrev SB:=sub b39 7
def Mo:=by
 have h:=aD b39 RU.1 0 (bn _)
 simp only [RU,cZ,simprocAttr] at h
 exact h
end Go.Proofs.YtahkjijkflobhaaGreatDoor
namespace Go.Abs
section
open Go Go.RowKit
def bE {α:Type}:∀(l:List α) (i:Nat),nth l i=l[i]?
 | [],_=>by simp [nth]
 |_::_,0=>by simp [nth]
 |_::l,n+1=>by simp [nth,bE l n]
def cd {α:Type}:∀(l:List α) (i:Nat) (x:α),cS l i x=l.set i x
 | [],_,_=>by simp [cS]
 |_::_,0,_=>by simp [cS]
 |_::l,n+1,x=>by simp [cS,cd l n]
def bX (j:J) (id:Nat) (ob:Option Nat):J:=⟨fun i=>if i=id then ob else j i,j.X⟩
structure Quiet (w w':World):Prop where
 size:w.heap.size<=w'.heap.size
 os:w'.os=w.os
 tape:w'.tape=w.tape
 output:w'.output=w.output
def lt_of_block {w:World} {b:Nat} {o:Obj} (h:w.heap[b]?=some o):b<w.heap.size:=by
 rcases Nat.lt_or_ge b w.heap.size with h'|h'
 ·exact h'
 ·rw [Array.getElem?_eq_none h'] at h; cases h
def aj {α:Type} {l:List α} {i:Nat} {x:α} (h:l[i]?=some x):i<l.length:=(List.getElem?_eq_some_iff.1 h).1
section
variable {j:J} {M:ag} {w w':World}
def ia {j':J} {M':ag} (hr:Rel j M w) (ext:Ext j M w j' M' w') {i sz ver:Nat} {xs:List ae} (h:M[i]?=some (.arr sz ver xs)) (hj:j' i=j i) (hb:∀b,j i=some b->w'.heap[b]?=w.heap[b]?) :
  (xs=[]/\j' i=none)\/∃b vs t,j' i=some b/\w'.heap[b]?=some (.cells vs t (0,0))/\xs.length*sz<=vs.size/\(∀x,x∈xs->x.cells.length=sz) /\
  ∀(q:Nat) (x:ae) (k:Nat) (c:ae),xs[q]?=some x->x.cells[k]?=some c->∃v,vs[q*sz+k]?=some v/\bF w' (fJ j' M' w') c v:=by
 rcases hr.arr i sz ver xs h with he|⟨b,vs,t,h1,h2,h3,h4,h5⟩
 ·exact .inl ⟨he.1,hj.trans he.2⟩
 refine .inr ⟨b,vs,t,hj.trans h1,(hb b h1).trans h2,h3,h4,fun q x k c hx hk=>?_⟩
 obtain ⟨u,h6,h7⟩:=h5 q x k c hx hk
 exact ⟨u,h6,h7.mono ext.cu⟩
def Rel.qw (hr:Rel j M w) {i sz ver b:Nat} {xs:List ae} (h:M[i]?=some (.arr sz ver xs)) (hj:j i=some b):∃b vs t,j i=some b/\w.heap[b]?=some (.cells vs t (0,0))/\xs.length*sz<=vs.size/\(∀x,x∈xs->x.cells.length=sz) /\
  ∀(q:Nat) (x:ae) (k:Nat) (c:ae),xs[q]?=some x->x.cells[k]?=some c->∃v,vs[q*sz+k]?=some v/\bF w (fJ j M w) c v:=by
 rcases hr.arr i sz ver xs h with ⟨_,he⟩|hh
 ·rw [hj] at he; cases he
 ·exact hh
def oN {bx:aK} {i:Nat} (h:i<M.length):(M++[bx])[i]?=M[i]?:=List.getElem?_append_left h
def fZ {bx:aK}:(M++[bx])[M.length]?=some bx:=by simp
def Ext.push {ob:Option Nat} {bx:aK} (hob:∀b,ob=some b->w.heap.size<=b) (q:Quiet w w') (hb:∀b,b<w.heap.size->w'.heap[b]?=w.heap[b]?) :
  Ext j M w (bX j M.length ob) (M++[bx]) w' where
 len:=by simp
 size:=q.size
 os:=q.os
 tape:=q.tape
 output:=q.output
 X:=rfl
 fix:=fun i bx h _=>by
  have hi:=aj h
  exact ⟨by simp [bX,Nat.ne_of_lt hi],bx,by rw [oN hi]; exact h,rfl⟩
 tick:=fun i sz n h=>by
  have hi:=aj h
  exact ⟨n,Nat.le_refl _,by rw [oN hi]; exact h,fun _=>⟨by simp [bX,Nat.ne_of_lt hi],fun b vs t _ hv=>⟨vs,(hb b (lt_of_block hv)).trans hv,rfl⟩⟩⟩
 arr:=fun i sz v xs h=>by
  have hi:=aj h
  exact .inr ⟨v,xs,by rw [oN hi]; exact h,Nat.le_refl _,fun _=>⟨by simp [bX,Nat.ne_of_lt hi],rfl,fun b vs t _ hv=>⟨vs,(hb b (lt_of_block hv)).trans hv,rfl⟩⟩⟩
 tags:=fun b0 vs0 t0 fr0 h=>⟨vs0,fr0,(hb b0 (lt_of_block h)).trans h,rfl⟩
 cu:=fun b off h=>by
  refine ⟨⟨Nat.lt_of_lt_of_le h.1 q.size,fun id hid hj=>?_,h.3⟩,World.cell?_of_block (w:=w) (hb b h.1)⟩
  by_cases he:id=M.length
  ·have:ob=some b:=by simpa [bX,he] using hj
   have:=hob b this
   have:=h.1
   omega
  ·have hlt:id<M.length:=by simp at hid; omega
   rw [oN hlt]
   exact h.2 id hlt (by simpa [bX,he] using hj)
 mP:=fun b hlt h=>by
  refine ⟨hb b hlt,fun i hi hj=>?_⟩
  by_cases he:i=M.length
  ·have:ob=some b:=by simpa [bX,he] using hj
   have:=hob b this
   omega
  ·exact h i (by simp at hi; omega) (by simpa [bX,he] using hj)
def Rel.PV (hr:Rel j M w) {ob:Option Nat} {bx:aK} (hob:∀b,ob=some b->w.heap.size<=b/\b<w'.heap.size) (q:Quiet w w') (hb:∀b,b<w.heap.size->w'.heap[b]?=w.heap[b]?)
  (hbox:bx.fixed=true->∃b,ob=some b/\(Ext j M w (bX j M.length ob) (M++[bx]) w'->Holds (bX j M.length ob) (M++[bx]) w' b bx))
  (htick:∀sz n b,bx = .tick sz n->ob=some b->∃vs t,w'.heap[b]?=some (.cells vs t (0,0)))
  (harr:∀sz ver xs,bx = .arr sz ver xs->(xs=[]/\ob=none)\/∃b vs t,ob=some b/\w'.heap[b]?=some (.cells vs t (0,0))/\xs.length*sz<=vs.size/\(∀x,x∈xs->x.cells.length=sz) /\
   ∀j' M',Ext j M w j' M' w'->∀(q:Nat) (x:ae) (k:Nat) (c:ae),xs[q]?=some x->x.cells[k]?=some c->∃v,vs[q*sz+k]?=some v/\bF w' (fJ j' M' w') c v:=by intro _ _ _ h; cases h):Rel (bX j M.length ob) (M++[bx]) w':=by
 have ext:Ext j M w (bX j M.length ob) (M++[bx]) w':=Ext.push (fun b h=>(hob b h).1) q hb
 have up:∀i,i<M.length->bX j M.length ob i=j i:=fun i hi=>by simp [bX,Nat.ne_of_lt hi]
 have cas:∀i x,(M++[bx])[i]?=some x->(i<M.length/\M[i]?=some x)\/(i=M.length/\x=bx):=by
  intro i x h
  rcases Nat.lt_or_ge i M.length with hi|hi
  ·exact .inl ⟨hi,by rw [<-oN (bx:=bx) hi]; exact h⟩
  ·have:=aj h
   have he:i=M.length:=by simp at this; omega
   subst he
   rw [fZ] at h
   injection h with h
   exact .inr ⟨rfl,h.symm⟩
 refine ⟨fun i i' b hi hi' h h'=>?_,fun i b hi h=>?_,fun i bx' h hf=>?_,fun i sz n b h hj=>?_,fun i sz ver xs h=>?_,fun i b hi h off hx=>?_,fun b off h=>Nat.lt_of_lt_of_le (hr.qo b off h) q.size⟩
 ·simp only [List.length_append,List.length_cons,List.length_nil] at hi hi'
  by_cases e:i=M.length<;>by_cases e':i'=M.length
  ·omega
  ·have h1:ob=some b:=by simpa [bX,e] using h
   rw [up i' (by omega)] at h'
   have:=hr.lt i' b (by omega) h'
   have:=(hob b h1).1
   omega
  ·have h1:ob=some b:=by simpa [bX,e'] using h'
   rw [up i (by omega)] at h
   have:=hr.lt i b (by omega) h
   have:=(hob b h1).1
   omega
  ·rw [up i (by omega)] at h
   rw [up i' (by omega)] at h'
   exact hr.inj i i' b (by omega) (by omega) h h'
 ·simp only [List.length_append,List.length_cons,List.length_nil] at hi
  by_cases e:i=M.length
  ·exact (hob b (by simpa [bX,e] using h)).2
  ·rw [up i (by omega)] at h
   exact Nat.lt_of_lt_of_le (hr.lt i b (by omega) h) q.size
 ·rcases cas i _ h with ⟨hi,h⟩|⟨rfl,hx⟩
  ·obtain ⟨b,h1,h2⟩:=hr.fix i bx' h hf
   exact ⟨b,by rw [up i hi]; exact h1,h2.mono ext (hb b (hr.lt i b hi h1))⟩
  ·subst hx
   obtain ⟨b,h1,h2⟩:=hbox hf
   exact ⟨b,by simp [bX,h1],h2 ext⟩
 ·rcases cas i _ h with ⟨hi,h⟩|⟨rfl,hx⟩
  ·rw [up i hi] at hj
   obtain ⟨vs,t,h1⟩:=hr.tick i sz n b h hj
   exact ⟨vs,t,(hb b (lt_of_block h1)).trans h1⟩
  ·exact htick sz n b hx.symm (by simpa [bX] using hj)
 ·rcases cas i _ h with ⟨hi,h⟩|⟨rfl,hx⟩
  ·exact ia hr ext h (up i hi) fun b h1=>hb b (hr.lt i b hi h1)
  ·obtain ⟨h1,h2⟩|⟨b,vs,t,h1,h2,h3,h4,h5⟩:=harr sz ver xs hx.symm
   ·exact .inl ⟨h1,by simp [bX,h2]⟩
   exact .inr ⟨b,vs,t,by simp [bX,h1],h2,h3,h4,h5 _ _ ext⟩
 ·by_cases e:i=M.length
  ·have h1:=(hob b (by simpa [bX,e] using h)).1
   have h2:=hr.qo b off hx
   omega
  ·exact hr.lY i b (by simp at hi; omega) (by rw [up i (by simp at hi; omega)] at h; exact h) off hx
def Rel.push (hr:Rel j M w) {ob:Option Nat} {bx:aK} (hob:∀b,ob=some b->w.heap.size<=b/\b<w'.heap.size) (q:Quiet w w') (hb:∀b,b<w.heap.size->w'.heap[b]?=w.heap[b]?)
  (hbox:bx.fixed=true->∃b,ob=some b/\∀j' M',Ext j M w j' M' w'->Holds j' M' w' b bx)
  (htick:∀sz n b,bx = .tick sz n->ob=some b->∃vs t,w'.heap[b]?=some (.cells vs t (0,0)))
  (harr:∀sz ver xs,bx = .arr sz ver xs->(xs=[]/\ob=none)\/∃b vs t,ob=some b/\w'.heap[b]?=some (.cells vs t (0,0))/\xs.length*sz<=vs.size/\(∀x,x∈xs->x.cells.length=sz) /\
   ∀j' M',Ext j M w j' M' w'->∀(q:Nat) (x:ae) (k:Nat) (c:ae),xs[q]?=some x->x.cells[k]?=some c->∃v,vs[q*sz+k]?=some v/\bF w' (fJ j' M' w') c v:=by intro _ _ _ h; cases h):Rel (bX j M.length ob) (M++[bx]) w' :=
 hr.PV hob q hb (fun hf=>(hbox hf).imp fun b h=>⟨h.1,fun hx=>h.2 _ _ hx⟩) htick harr
def aU {id:Nat} {bx:aK} (h:id<M.length):(M.set id bx)[id]?=some bx:=by simp [h]
def aH {id i:Nat} {bx:aK} (h:id≠i):(M.set id bx)[i]?=M[i]?:=by simp [List.getElem?_set_ne h]
def Ext.store {id b:Nat} {bx bx':aK} (hM:M[id]?=some bx) (hfx:bx.fixed=true) (htag:bx'.tag=bx.tag) (hj:j id=some b) (hr:Rel j M w) (q:Quiet w w')
  (hb:∀b',b'≠b->b'<w.heap.size->w'.heap[b']?=w.heap[b']?) (htg:∀(vs:Array Value) (t:TypeId) (fr:Nat×Nat),w.heap[b]?=some (.cells vs t fr)->∃vs' fr',w'.heap[b]?=some (.cells vs' t fr')/\vs'.size=vs.size):Ext j M w j (M.set id bx') w' where
 len:=by simp
 size:=q.size
 os:=q.os
 tape:=q.tape
 output:=q.output
 X:=rfl
 fix:=fun i b0 h _=>⟨rfl,by
  by_cases e:id=i
  ·subst e
   rw [hM] at h; injection h with h; subst h
   exact ⟨_,aU (aj hM),htag⟩
  ·exact ⟨b0,by rw [aH e]; exact h,rfl⟩⟩
 tick:=fun i sz n h=>by
  have e:id≠i:=by rintro rfl; rw [hM] at h; injection h with h; subst h; cases hfx
  refine ⟨n,Nat.le_refl _,by rw [aH e]; exact h,fun _=>⟨rfl,fun b' vs t hb' hv=>⟨vs,?_,rfl⟩⟩⟩
  refine (hb b' ?_ (lt_of_block hv)).trans hv
  rintro rfl
  exact e (hr.inj _ _ _ (aj hM) (aj h) hj hb')
 arr:=fun i sz v xs h=>by
  have e:id≠i:=by rintro rfl; rw [hM] at h; injection h with h; subst h; cases hfx
  refine .inr ⟨v,xs,by rw [aH e]; exact h,Nat.le_refl _,fun _=>⟨rfl,rfl,fun b' vs t hb' hv=>⟨vs,?_,rfl⟩⟩⟩
  refine (hb b' ?_ (lt_of_block hv)).trans hv
  rintro rfl
  exact e (hr.inj _ _ _ (aj hM) (aj h) hj hb')
 tags:=fun b0 vs0 t0 fr0 h=>by
  by_cases e:b0=b
  ·subst e; exact htg vs0 t0 fr0 h
  ·exact ⟨vs0,fr0,(hb b0 e (lt_of_block h)).trans h,rfl⟩
 cu:=fun b0 off h=>by
  have hne:b0≠b:=by
   rintro rfl
   obtain ⟨sz,n,h1,_⟩:=h.2 id (aj hM) hj
   rw [hM] at h1; injection h1 with h1; subst h1; cases hfx
  refine ⟨⟨Nat.lt_of_lt_of_le h.1 q.size,fun i hi hji=>?_,h.3⟩,World.cell?_of_block (w:=w) (hb b0 hne h.1)⟩
  have e:id≠i:=by rintro rfl; rw [hj] at hji; injection hji with hji; exact hne hji.symm
  rw [aH e]
  exact h.2 i (by simpa using hi) hji
 mP:=fun b0 hlt h=>by
  have hne:b0≠b:=by rintro rfl; exact h id (aj hM) hj
  exact ⟨hb b0 hne hlt,fun i hi=>h i (by simpa using hi)⟩
def Rel.store {id b:Nat} {bx bx':aK} (hM:M[id]?=some bx) (hfx:bx.fixed=true) (htag:bx'.tag=bx.tag) (hj:j id=some b) (hr:Rel j M w) (q:Quiet w w')
  (hb:∀b',b'≠b->b'<w.heap.size->w'.heap[b']?=w.heap[b']?) (htg:∀(vs:Array Value) (t:TypeId) (fr:Nat×Nat),w.heap[b]?=some (.cells vs t fr)->∃vs' fr',w'.heap[b]?=some (.cells vs' t fr')/\vs'.size=vs.size) (hh:∀j' M',Ext j M w j' M' w'->Holds j' M' w' b bx'):Rel j (M.set id bx') w':=by
 have ext:Ext j M w j (M.set id bx') w':=Ext.store hM hfx htag hj hr q hb htg
 refine ⟨fun i i' b0 hi hi'=>hr.inj i i' b0 (by simpa using hi) (by simpa using hi'),fun i b0 hi h=>Nat.lt_of_lt_of_le (hr.lt i b0 (by simpa using hi) h) q.size,fun i bx0 h hf=>?_,fun i sz n b0 h hji=>?_,fun i sz ver xs h=>?_,fun i b0 hi h=>hr.lY i b0 (by simpa using hi) h,fun b0 off h=>Nat.lt_of_lt_of_le (hr.qo b0 off h) q.size⟩
 ·by_cases e:id=i
  ·subst e
   rw [aU (aj hM)] at h
   injection h with h
   subst h
   exact ⟨b,hj,hh _ _ ext⟩
  ·rw [aH e] at h
   obtain ⟨b0,h1,h2⟩:=hr.fix i bx0 h hf
   refine ⟨b0,h1,h2.mono ext (hb b0 ?_ (hr.lt i b0 (aj h) h1))⟩
   rintro rfl
   exact e (hr.inj _ _ _ (aj hM) (aj h) hj h1)
 ·have e:id≠i:=by
   rintro rfl
   rw [aU (aj hM)] at h
   injection h with h
   have:=tb htag hfx
   rw [h] at this; cases this
  rw [aH e] at h
  obtain ⟨vs,t0,h1⟩:=hr.tick i sz n b0 h hji
  refine ⟨vs,t0,(hb b0 ?_ (lt_of_block h1)).trans h1⟩
  rintro rfl
  exact e (hr.inj _ _ _ (aj hM) (aj h) hj hji)
 ·have e:id≠i:=by
   rintro rfl
   rw [aU (aj hM)] at h
   injection h with h
   have:=tb htag hfx
   rw [h] at this; cases this
  rw [aH e] at h
  refine ia hr ext h rfl fun b0 h1=>hb b0 ?_ (hr.lt i b0 (aj h) h1)
  rintro rfl
  exact e (hr.inj _ _ _ (aj hM) (aj h) hj h1)
def Ext.yU {k b sz n n':Nat} {vs vs':Array Value} {t:TypeId} (hM:M[k]?=some (.tick sz n)) (hj:j k=some b) (hr:Rel j M w) (q:Quiet w w')
  (hb:∀b',b'≠b->b'<w.heap.size->w'.heap[b']?=w.heap[b']?) (hw:w.heap[b]?=some (.cells vs t (0,0))) (hw':w'.heap[b]?=some (.cells vs' t (0,0))) (hvs:vs'.size=vs.size)
  (hq:∀p,p<n*sz->vs'[p]?=vs[p]?) (hn:n<=n'):Ext j M w j (M.set k (.tick sz n')) w' where
 len:=by simp
 size:=q.size
 os:=q.os
 tape:=q.tape
 output:=q.output
 X:=rfl
 fix:=fun i b0 h hf=>⟨rfl,by
  have e:k≠i:=by rintro rfl; rw [hM] at h; injection h with h; subst h; cases hf
  exact ⟨b0,by rw [aH e]; exact h,rfl⟩⟩
 tick:=fun i sz0 n0 h=>by
  by_cases e:k=i
  ·subst e
   rw [hM] at h
   injection h with h; injection h with h1 h2
   subst h1; subst h2
   refine ⟨n',hn,aU (aj hM),fun _=>⟨rfl,fun b' vs0 t0 hb' hv=>?_⟩⟩
   rw [hj] at hb'; injection hb' with hb'; subst hb'
   rw [hw] at hv; injection hv with hv; injection hv with e1 e2
   subst e1; subst e2
   exact ⟨vs',hw',hvs⟩
  ·refine ⟨n0,Nat.le_refl _,by rw [aH e]; exact h,fun _=>⟨rfl,fun b' vs0 t0 hb' hv=>⟨vs0,?_,rfl⟩⟩⟩
   refine (hb b' ?_ (lt_of_block hv)).trans hv
   rintro rfl
   exact e (hr.inj _ _ _ (aj hM) (aj h) hj hb')
 arr:=fun i sz v xs h=>by
  have e:k≠i:=by rintro rfl; rw [hM] at h; cases h
  refine .inr ⟨v,xs,by rw [aH e]; exact h,Nat.le_refl _,fun _=>⟨rfl,rfl,fun b' vs t hb' hv=>⟨vs,?_,rfl⟩⟩⟩
  refine (hb b' ?_ (lt_of_block hv)).trans hv
  rintro rfl
  exact e (hr.inj _ _ _ (aj hM) (aj h) hj hb')
 tags:=fun b0 vs0 t0 fr0 h=>by
  by_cases e:b0=b
  ·subst e
   rw [hw] at h; injection h with h; injection h with h1 h2 h3
   subst h1; subst h2
   exact ⟨_,_,hw',hvs⟩
  ·exact ⟨vs0,fr0,(hb b0 e (lt_of_block h)).trans h,rfl⟩
 cu:=fun b0 off h=>by
  refine ⟨⟨Nat.lt_of_lt_of_le h.1 q.size,fun i hi hji=>?_,h.3⟩,?_⟩
  ·by_cases e:k=i
   ·subst e
    obtain ⟨sz0,n0,h1,h2⟩:=h.2 k (aj hM) hji
    rw [hM] at h1
    injection h1 with h1; injection h1 with e1 e2
    subst e1; subst e2
    exact ⟨sz,n',aU (aj hM),Nat.lt_of_lt_of_le h2 (Nat.mul_le_mul_right _ hn)⟩
   ·rw [aH e]
    exact h.2 i (by simpa using hi) hji
  ·by_cases e:b0=b
   ·subst e
    obtain ⟨sz0,n0,h1,h2⟩:=h.2 k (aj hM) hj
    rw [hM] at h1
    injection h1 with h1; injection h1 with e1 e2
    subst e1; subst e2
    simp only [World.cell?,hw,hw']
    simpa using hq off h2
   ·exact World.cell?_of_block (w:=w) (hb b0 e h.1)
 mP:=fun b0 hlt h=>by
  have hne:b0≠b:=by rintro rfl; exact h k (aj hM) hj
  exact ⟨hb b0 hne hlt,fun i hi=>h i (by simpa using hi)⟩
def Rel.yU {k b sz n n':Nat} {vs vs':Array Value} {t:TypeId} (hM:M[k]?=some (.tick sz n)) (hj:j k=some b) (hr:Rel j M w) (q:Quiet w w')
  (hb:∀b',b'≠b->b'<w.heap.size->w'.heap[b']?=w.heap[b']?) (hw:w.heap[b]?=some (.cells vs t (0,0))) (hw':w'.heap[b]?=some (.cells vs' t (0,0))) (hvs:vs'.size=vs.size)
  (hq:∀p,p<n*sz->vs'[p]?=vs[p]?) (hn:n<=n'):Rel j (M.set k (.tick sz n')) w':=by
 have ext:Ext j M w j (M.set k (.tick sz n')) w':=Ext.yU hM hj hr q hb hw hw' hvs hq hn
 refine ⟨fun i i' b0 hi hi'=>hr.inj i i' b0 (by simpa using hi) (by simpa using hi'),fun i b0 hi h=>Nat.lt_of_lt_of_le (hr.lt i b0 (by simpa using hi) h) q.size,fun i bx0 h hf=>?_,fun i sz0 n0 b0 h hji=>?_,fun i sz ver xs h=>?_,fun i b0 hi h=>hr.lY i b0 (by simpa using hi) h,fun b0 off h=>Nat.lt_of_lt_of_le (hr.qo b0 off h) q.size⟩
 ·have e:k≠i:=by rintro rfl; rw [aU (aj hM)] at h; injection h with h; subst h; cases hf
  rw [aH e] at h
  obtain ⟨b0,h1,h2⟩:=hr.fix i bx0 h hf
  refine ⟨b0,h1,h2.mono ext (hb b0 ?_ (hr.lt i b0 (aj h) h1))⟩
  rintro rfl
  exact e (hr.inj _ _ _ (aj hM) (aj h) hj h1)
 ·by_cases e:k=i
  ·subst e
   rw [hj] at hji; injection hji with hji; subst hji
   exact ⟨vs',t,hw'⟩
  ·rw [aH e] at h
   obtain ⟨vs0,t0,h1⟩:=hr.tick i sz0 n0 b0 h hji
   refine ⟨vs0,t0,(hb b0 ?_ (lt_of_block h1)).trans h1⟩
   rintro rfl
   exact e (hr.inj _ _ _ (aj hM) (aj h) hj hji)
 ·have e:k≠i:=by rintro rfl; rw [aU (aj hM)] at h; cases h
  rw [aH e] at h
  refine ia hr ext h rfl fun b0 h1=>hb b0 ?_ (hr.lt i b0 (aj h) h1)
  rintro rfl
  exact e (hr.inj _ _ _ (aj hM) (aj h) hj h1)
def Ext.uB {k b' sz n n':Nat} (hM:M[k]?=some (.tick sz n)) (q:Quiet w w') (hb:∀b,b<w.heap.size->w'.heap[b]?=w.heap[b]?) (hf:w.heap.size<=b') (hn:n<n') :
  Ext j M w (bX j k (some b')) (M.set k (.tick sz n')) w' where
 len:=by simp
 size:=q.size
 os:=q.os
 tape:=q.tape
 output:=q.output
 X:=rfl
 fix:=fun i b0 h hf=>by
  have e:k≠i:=by rintro rfl; rw [hM] at h; injection h with h; subst h; cases hf
  exact ⟨by simp [bX,Ne.symm e],b0,by rw [aH e]; exact h,rfl⟩
 tick:=fun i sz0 n0 h=>by
  by_cases e:k=i
  ·subst e
   rw [hM] at h
   injection h with h; injection h with h1 h2
   subst h1; subst h2
   exact ⟨n',by omega,aU (aj hM),fun he=>by omega⟩
  ·exact ⟨n0,Nat.le_refl _,by rw [aH e]; exact h,fun _=>⟨by simp [bX,Ne.symm e],fun b vs0 t0 _ hv=>⟨vs0,(hb b (lt_of_block hv)).trans hv,rfl⟩⟩⟩
 arr:=fun i sz v xs h=>by
  have e:k≠i:=by rintro rfl; rw [hM] at h; cases h
  exact .inr ⟨v,xs,by rw [aH e]; exact h,Nat.le_refl _,fun _=>⟨by simp [bX,Ne.symm e],rfl,fun b vs0 t0 _ hv=>⟨vs0,(hb b (lt_of_block hv)).trans hv,rfl⟩⟩⟩
 tags:=fun b0 vs0 t0 fr0 h=>⟨vs0,fr0,(hb b0 (lt_of_block h)).trans h,rfl⟩
 cu:=fun b0 off h=>by
  refine ⟨⟨Nat.lt_of_lt_of_le h.1 q.size,fun i hi hji=>?_,h.3⟩,World.cell?_of_block (w:=w) (hb b0 h.1)⟩
  have e:k≠i:=by
   rintro rfl
   have:b'=b0:=by simpa [bX] using hji
   have:=h.1
   omega
  rw [aH e]
  exact h.2 i (by simpa using hi) (by simpa [bX,Ne.symm e] using hji)
 mP:=fun b0 hlt h=>by
  refine ⟨hb b0 hlt,fun i hi hji=>?_⟩
  by_cases e:i=k
  ·have:b'=b0:=by simpa [bX,e] using hji
   omega
  ·exact h i (by simpa using hi) (by simpa [bX,e] using hji)
def Rel.uB {k b' sz n n':Nat} {vs:Array Value} {t:TypeId} (hM:M[k]?=some (.tick sz n)) (hr:Rel j M w) (q:Quiet w w') (hb:∀b,b<w.heap.size->w'.heap[b]?=w.heap[b]?)
  (hf:w.heap.size<=b') (hw':w'.heap[b']?=some (.cells vs t (0,0))) (hn:n<n'):Rel (bX j k (some b')) (M.set k (.tick sz n')) w':=by
 have ext:Ext j M w (bX j k (some b')) (M.set k (.tick sz n')) w':=Ext.uB hM q hb hf hn
 refine ⟨fun i i' b0 hi hi' h h'=>?_,fun i b0 hi h=>?_,fun i bx0 h hf=>?_,fun i sz0 n0 b0 h hji=>?_,fun i sz ver xs h=>?_,fun i b0 hi h off hx=>?_,fun b0 off h=>Nat.lt_of_lt_of_le (hr.qo b0 off h) q.size⟩
 ·simp only [List.length_set] at hi hi'
  by_cases e:i=k<;>by_cases e':i'=k
  ·omega
  ·have h1:b'=b0:=by simpa [bX,e] using h
   have:=hr.lt i' b0 hi' (by simpa [bX,e'] using h')
   omega
  ·have h1:b'=b0:=by simpa [bX,e'] using h'
   have:=hr.lt i b0 hi (by simpa [bX,e] using h)
   omega
  ·exact hr.inj i i' b0 hi hi' (by simpa [bX,e] using h) (by simpa [bX,e'] using h')
 ·simp only [List.length_set] at hi
  by_cases e:i=k
  ·have h1:b'=b0:=by simpa [bX,e] using h
   subst h1
   exact lt_of_block hw'
  ·exact Nat.lt_of_lt_of_le (hr.lt i b0 hi (by simpa [bX,e] using h)) q.size
 ·have e:k≠i:=by rintro rfl; rw [aU (aj hM)] at h; injection h with h; subst h; cases hf
  rw [aH e] at h
  obtain ⟨b0,h1,h2⟩:=hr.fix i bx0 h hf
  exact ⟨b0,by simpa [bX,Ne.symm e] using h1,h2.mono ext (hb b0 (hr.lt i b0 (aj h) h1))⟩
 ·by_cases e:i=k
  ·have h1:b'=b0:=by simpa [bX,e] using hji
   subst h1
   exact ⟨vs,t,hw'⟩
  ·rw [aH (Ne.symm e)] at h
   obtain ⟨vs0,t0,h1⟩:=hr.tick i sz0 n0 b0 h (by simpa [bX,e] using hji)
   exact ⟨vs0,t0,(hb b0 (lt_of_block h1)).trans h1⟩
 ·have e:k≠i:=by rintro rfl; rw [aU (aj hM)] at h; cases h
  rw [aH e] at h
  exact ia hr ext h (by simp [bX,Ne.symm e]) fun b0 h1=>hb b0 (hr.lt i b0 (aj h) h1)
 ·by_cases e:i=k
  ·have h1:b'=b0:=by simpa [bX,e] using h
   have h2:=hr.qo b0 off hx
   omega
  ·exact hr.lY i b0 (by simpa using hi) (by simpa [bX,e] using h) off hx
end
section
variable {j:J} {M:ag} {w w':World}
def yY (j:J) (M:ag) (w:World) (b sz:Nat) (xs:List ae):Prop:=∃vs t,w.heap[b]?=some (.cells vs t (0,0))/\xs.length*sz<=vs.size/\(∀x,x∈xs->x.cells.length=sz) /\
  ∀(q:Nat) (x:ae) (k:Nat) (c:ae),xs[q]?=some x->x.cells[k]?=some c->∃v,vs[q*sz+k]?=some v/\bF w (fJ j M w) c v
def Ext.wE {id b sz ver ver':Nat} {xs xs':List ae} (hM:M[id]?=some (.arr sz ver xs)) (hj:j id=some b) (hr:Rel j M w) (q:Quiet w w')
  (hb:∀b',b'≠b->b'<w.heap.size->w'.heap[b']?=w.heap[b']?) (hw:∀vs t,w.heap[b]?=some (.cells vs t (0,0))->∃vs',w'.heap[b]?=some (.cells vs' t (0,0))/\vs'.size=vs.size)
  (hv:ver<=ver') (hl:ver'=ver->xs'.length=xs.length):Ext j M w j (M.set id (.arr sz ver' xs')) w' where
 len:=by simp
 size:=q.size
 os:=q.os
 tape:=q.tape
 output:=q.output
 X:=rfl
 fix:=fun i b0 h hf=>⟨rfl,by
  have e:id≠i:=by rintro rfl; rw [hM] at h; injection h with h; subst h; cases hf
  exact ⟨b0,by rw [aH e]; exact h,rfl⟩⟩
 tick:=fun i sz0 n0 h=>by
  have e:id≠i:=by rintro rfl; rw [hM] at h; cases h
  refine ⟨n0,Nat.le_refl _,by rw [aH e]; exact h,fun _=>⟨rfl,fun b' vs0 t0 hb' hv=>⟨vs0,?_,rfl⟩⟩⟩
  refine (hb b' ?_ (lt_of_block hv)).trans hv
  rintro rfl
  exact e (hr.inj _ _ _ (aj hM) (aj h) hj hb')
 arr:=fun i sz0 v0 xs0 h=>by
  by_cases e:id=i
  ·subst e
   rw [hM] at h
   injection h with h; injection h with e1 e2 e3
   subst e1; subst e2; subst e3
   refine .inr ⟨ver',xs',aU (aj hM),hv,fun he=>⟨rfl,hl he,fun b' vs t hb' hv=>?_⟩⟩
   rw [hj] at hb'; injection hb' with hb'; subst hb'
   exact hw vs t hv
  ·refine .inr ⟨v0,xs0,by rw [aH e]; exact h,Nat.le_refl _,fun _=>⟨rfl,rfl,fun b' vs t hb' hv=>⟨vs,?_,rfl⟩⟩⟩
   refine (hb b' ?_ (lt_of_block hv)).trans hv
   rintro rfl
   exact e (hr.inj _ _ _ (aj hM) (aj h) hj hb')
 tags:=fun b0 vs0 t0 fr0 h=>by
  by_cases e:b0=b
  ·subst e
   obtain ⟨b',vs,t,g1,g2,_⟩:=hr.qw hM hj
   rw [hj] at g1; injection g1 with g1; subst g1
   rw [g2] at h; injection h with h; injection h with h1 h2 h3
   subst h1; subst h2
   obtain ⟨vs',k1,k2⟩:=hw vs t g2
   exact ⟨_,_,k1,k2⟩
  ·exact ⟨vs0,fr0,(hb b0 e (lt_of_block h)).trans h,rfl⟩
 cu:=fun b0 off h=>by
  have hne:b0≠b:=by
   rintro rfl
   obtain ⟨sz,n,h1,_⟩:=h.2 id (aj hM) hj
   rw [hM] at h1; cases h1
  refine ⟨⟨Nat.lt_of_lt_of_le h.1 q.size,fun i hi hji=>?_,h.3⟩,World.cell?_of_block (w:=w) (hb b0 hne h.1)⟩
  have e:id≠i:=by rintro rfl; rw [hj] at hji; injection hji with hji; exact hne hji.symm
  rw [aH e]
  exact h.2 i (by simpa using hi) hji
 mP:=fun b0 hlt h=>by
  have hne:b0≠b:=by rintro rfl; exact h id (aj hM) hj
  exact ⟨hb b0 hne hlt,fun i hi=>h i (by simpa using hi)⟩
def Rel.wE {id b sz ver ver':Nat} {xs xs':List ae} (hM:M[id]?=some (.arr sz ver xs)) (hj:j id=some b) (hr:Rel j M w) (q:Quiet w w')
  (hb:∀b',b'≠b->b'<w.heap.size->w'.heap[b']?=w.heap[b']?) (hw:∀vs t,w.heap[b]?=some (.cells vs t (0,0))->∃vs',w'.heap[b]?=some (.cells vs' t (0,0))/\vs'.size=vs.size)
  (hv:ver<=ver') (hl:ver'=ver->xs'.length=xs.length) (hh:∀j' M',Ext j M w j' M' w'->yY j' M' w' b sz xs'):Rel j (M.set id (.arr sz ver' xs')) w':=by
 have ext:Ext j M w j (M.set id (.arr sz ver' xs')) w':=Ext.wE hM hj hr q hb hw hv hl
 refine ⟨fun i i' b0 hi hi'=>hr.inj i i' b0 (by simpa using hi) (by simpa using hi'),fun i b0 hi h=>Nat.lt_of_lt_of_le (hr.lt i b0 (by simpa using hi) h) q.size,fun i bx0 h hf=>?_,fun i sz0 n0 b0 h hji=>?_,fun i sz0 v0 xs0 h=>?_,fun i b0 hi h=>hr.lY i b0 (by simpa using hi) h,fun b0 off h=>Nat.lt_of_lt_of_le (hr.qo b0 off h) q.size⟩
 ·have e:id≠i:=by rintro rfl; rw [aU (aj hM)] at h; injection h with h; subst h; cases hf
  rw [aH e] at h
  obtain ⟨b0,h1,h2⟩:=hr.fix i bx0 h hf
  refine ⟨b0,h1,h2.mono ext (hb b0 ?_ (hr.lt i b0 (aj h) h1))⟩
  rintro rfl
  exact e (hr.inj _ _ _ (aj hM) (aj h) hj h1)
 ·have e:id≠i:=by rintro rfl; rw [aU (aj hM)] at h; cases h
  rw [aH e] at h
  obtain ⟨vs,t0,h1⟩:=hr.tick i sz0 n0 b0 h hji
  refine ⟨vs,t0,(hb b0 ?_ (lt_of_block h1)).trans h1⟩
  rintro rfl
  exact e (hr.inj _ _ _ (aj hM) (aj h) hj hji)
 ·by_cases e:id=i
  ·subst e
   rw [aU (aj hM)] at h
   injection h with h; injection h with e1 e2 e3
   subst e1; subst e2; subst e3
   obtain ⟨vs,t,g⟩:=hh _ _ ext
   exact .inr ⟨b,vs,t,hj,g⟩
  ·rw [aH e] at h
   refine ia hr ext h rfl fun b0 h1=>hb b0 ?_ (hr.lt i b0 (aj h) h1)
   rintro rfl
   exact e (hr.inj _ _ _ (aj hM) (aj h) hj h1)
def Ext.freeze {id sz ver:Nat} {xs:List ae} (hM:M[id]?=some (.arr sz ver xs)):Ext j M w j (M.set id (.tick sz xs.length)) w where
 len:=by simp
 size:=Nat.le_refl _
 os:=rfl
 tape:=rfl
 output:=rfl
 X:=rfl
 fix:=fun i b0 h hf=>⟨rfl,by
  have e:id≠i:=by rintro rfl; rw [hM] at h; injection h with h; subst h; cases hf
  exact ⟨b0,by rw [aH e]; exact h,rfl⟩⟩
 tick:=fun i sz0 n0 h=>by
  have e:id≠i:=by rintro rfl; rw [hM] at h; cases h
  exact ⟨n0,Nat.le_refl _,by rw [aH e]; exact h,fun _=>⟨rfl,fun b' vs0 t0 hb' hv=>⟨vs0,hv,rfl⟩⟩⟩
 arr:=fun i sz0 v0 xs0 h=>by
  by_cases e:id=i
  ·subst e
   rw [hM] at h
   injection h with h; injection h with e1 e2 e3
   subst e1; subst e2; subst e3
   exact .inl ⟨_,aU (aj hM)⟩
  ·exact .inr ⟨v0,xs0,by rw [aH e]; exact h,Nat.le_refl _,fun _=>⟨rfl,rfl,fun b' vs t hb' hv=>⟨vs,hv,rfl⟩⟩⟩
 tags:=fun b vs t fr h=>⟨vs,fr,h,rfl⟩
 cu:=fun b0 off h=>by
  refine ⟨⟨h.1,fun i hi hji=>?_,h.3⟩,rfl⟩
  have e:id≠i:=by
   rintro rfl
   obtain ⟨sz,n,h1,_⟩:=h.2 id (aj hM) hji
   rw [hM] at h1; cases h1
  rw [aH e]
  exact h.2 i (by simpa using hi) hji
 mP:=fun b0 hlt h=>⟨rfl,fun i hi=>h i (by simpa using hi)⟩
def Rel.freeze {id sz ver:Nat} {xs:List ae} (hM:M[id]?=some (.arr sz ver xs)) (hr:Rel j M w):Rel j (M.set id (.tick sz xs.length)) w:=by
 have ext:Ext j M w j (M.set id (.tick sz xs.length)) w:=Ext.freeze hM
 refine ⟨fun i i' b0 hi hi'=>hr.inj i i' b0 (by simpa using hi) (by simpa using hi'),fun i b0 hi h=>hr.lt i b0 (by simpa using hi) h,fun i bx0 h hf=>?_,fun i sz0 n0 b0 h hji=>?_,fun i sz0 v0 xs0 h=>?_,fun i b0 hi h=>hr.lY i b0 (by simpa using hi) h,hr.qo⟩
 ·have e:id≠i:=by rintro rfl; rw [aU (aj hM)] at h; injection h with h; subst h; cases hf
  rw [aH e] at h
  obtain ⟨b0,h1,h2⟩:=hr.fix i bx0 h hf
  exact ⟨b0,h1,h2.mono ext rfl⟩
 ·by_cases e:id=i
  ·subst e
   obtain ⟨b,vs,t,g1,g2,_⟩:=hr.qw hM hji
   rw [hji] at g1; injection g1 with g1; subst g1
   exact ⟨vs,t,g2⟩
  ·rw [aH e] at h
   exact hr.tick i sz0 n0 b0 h hji
 ·have e:id≠i:=by rintro rfl; rw [aU (aj hM)] at h; cases h
  rw [aH e] at h
  exact ia hr ext h rfl fun b0 h1=>rfl
end
def oT {w:World} {cu saf':Nat->Nat->Prop} {b lo hi sz cap:Nat} {vs:Array Value} {t:TypeId} {xs:List ae} (hw:w.heap[b]?=some (.cells vs t (0,0))) (hwid:∀x,x∈xs->x.cells.length=sz)
  (hc:∀(q:Nat) (x:ae) (k:Nat) (c:ae),xs[q]?=some x->x.cells[k]?=some c->∃v,vs[q*sz+k]?=some v/\bF w cu c v) (hm:∀b off,cu b off->saf' b off) (hs:∀off,off<xs.length*sz->saf' b off)
  (h1:lo<=hi) (h2:hi<=xs.length) (h3:hi-lo<=cap):bF w saf' (.slice .sh ((xs.take hi).drop lo)) (.slice (some ⟨b,lo*sz,none⟩) (hi-lo) cap):=by
 have hget:∀(i:Nat) (x:ae),((xs.take hi).drop lo)[i]?=some x->xs[lo+i]?=some x/\lo+i<hi:=by
  intro i x h
  rw [List.getElem?_drop] at h
  have hlt:lo+i<hi:=by have:=aj h; simp at this; omega
  rw [List.getElem?_take_of_lt hlt] at h
  exact ⟨h,hlt⟩
 have idx:∀i k,lo*sz+(i*sz+k)=(lo+i)*sz+k:=fun i k=>by rw [Nat.add_mul]; omega
 refine .slice _ _ _ _ b (lo*sz) sz (fun p=>(vs[lo*sz+p]?).getD undef) (by simp; omega) (by omega) (fun _=>rfl) (fun x hx=>hwid x (List.mem_of_mem_take (List.mem_of_mem_drop hx))) (fun i x k c hx hk=>?_) fun i x k c hx hk=>?_
 ·obtain ⟨g1,g2⟩:=hget i x hx
  obtain ⟨v,g3,g4⟩:=hc _ x k c g1 hk
  have hk':k<sz:=by rw [<-hwid x (List.mem_of_getElem? g1)]; exact aj hk
  rw [idx]
  refine ⟨by simp [World.cell?,hw,g3],hs _ ?_⟩
  calc (lo+i)*sz+k<(lo+i)*sz+sz:=by omega
   _=(lo+i+1)*sz:=by rw [Nat.add_mul (lo+i) 1]; omega
   _<=xs.length*sz:=Nat.mul_le_mul_right _ (by omega)
 ·obtain ⟨g1,g2⟩:=hget i x hx
  obtain ⟨v,g3,g4⟩:=hc _ x k c g1 hk
  simp only [idx,g3,Option.getD_some]
  exact g4.mono fun b off h=>⟨hm b off h,rfl⟩
end
section
open Go Go.RowKit
variable [dQ]
def cG (j:J) (M:ag) (w:World) (x:ae×ag) (v:Value) (w':World):Prop:=∃j',Rel j' x.2 w'/\Ext j M w j' x.2 w'/\bQ j' x.2 w' x.1 v
def zf (j:J) (M:ag) (w:World) (x:ae×ag) (u:Value) (w':World):Prop:=x.1 = .fK u/\∃j',Rel j' x.2 w'/\Ext j M w j' x.2 w'
def mQ (j:J) (M:ag) (w:World) (x:ae×ag) (e:Ending) (w':World):Prop :=
 (∃v,e = .returned v/\cG j M w x v w')\/∃u,e = .panicked [{ v:=u,recovered:=false }]/\zf j M w x u w'
def mQ.ret {j:J} {M:ag} {w:World} {x:ae×ag} {e:Ending} {w':World} (h:mQ j M w x e w') (hx:x.1.di=false):∃v,e = .returned v/\cG j M w x v w':=by
 rcases h with h|⟨u,_,h,_⟩
 ·exact h
 ·rw [h] at hx; cases hx
def ba (P:Program) (f:Nat) (args:List ae) (M:ag) (x:ae×ag):Prop :=
 ∀(j:J) (w:World) (vs:Array Value),Rel j M w->j4 j M w->args.length=vs.size->(∀(i:Nat) (c:ae) (v:Value),args[i]?=some c->vs[i]?=some v->bQ j M w c v) ->
  Calls P f vs w fun e w'=>mQ j M w x e w'
def fL (P:Program) (f:Nat) (args:List ae) (M:ag) (x:ae×ag):Prop :=
 ∀(j:J) (w:World) (vs:Array Value),Rel j M w->j4 j M w->args.length=vs.size->(∀(i:Nat) (c:ae) (v:Value),args[i]?=some c->vs[i]?=some v->bQ j M w c v) ->
  Calls P f vs w fun e w'=>∃v j',e = .returned v/\Rel j' x.2 w'/\Ext j M w j' x.2 w'/\bQ j' x.2 w' x.1 v
def fL.call {P:Program} {f:Nat} {args:List ae} {M:ag} {x:ae×ag} (h:fL P f args M x):ba P f args M x:=fun j w vs h1 h2 h3 h4 =>
 (h j w vs h1 h2 h3 h4).mono fun e w' ⟨v,j',he,g1,g2,g3⟩ => .inl ⟨v,he,j',g1,g2,g3⟩
def hU (P:Program) (C:bt):Prop:=∀f a M x,C f a M=some x->fu P f=true/\ba P f a M x
section
variable {j:J} {M:ag} {w:World} {P:Program}
def cG.still {v:Value} {y:ae} (hr:Rel j M w) (h:bQ j M w y v):cG j M w (y,M) v w:=⟨j,hr,Ext.refl j M w,h⟩
def zn {v:Value} {x:ae} (h:zm v=some x):bQ j M w x v:=by
 unfold zm at h
 split at h<;>first
  |(injection h with h; subst h; first|exact .plain (.bool _)|exact .plain (.int _ _)|exact .plain (.str _)|exact .plain (.raw _ rfl)|exact .c0 _)
  |cases h
def zk {cu:Nat->Nat->Prop}:∀ {vs:List Value} {l:List ae},Gy vs=some l->l.length=vs.length/\∀(i:Nat) (c:ae) (v:Value),l[i]?=some c->vs[i]?=some v->bF w cu c v
 | [],l,h=>by
  simp [Gy] at h; subst h
  exact ⟨rfl,fun i c v h=>by simp at h⟩
 |v::r,l,h=>by
  simp only [Gy] at h
  rw [Option.bind_eq_some_iff] at h
  obtain ⟨x,hx,h⟩:=h
  rw [Option.bind_eq_some_iff] at h
  obtain ⟨l',hl,h⟩:=h
  injection h with h; subst h
  obtain ⟨h1,h2⟩:=zk hl
  refine ⟨by simp [h1],fun i c u hc hu=>?_⟩
  cases i with
  |zero =>
   simp at hc hu; subst hc; subst hu
   unfold Pf at hx
   split at hx<;>first
    |(injection hx with hx; subst hx; first|exact .bool _|exact .int _ _|exact .str _|exact .raw _ rfl)
    |cases hx
  |succ i=>exact h2 i c u (by simpa using hc) (by simpa using hu)
def gJ:∀ {vs:List Value} {l:List ae},jL vs=some l->l.length=vs.length/\∀(i:Nat) (c:ae) (v:Value),l[i]?=some c->vs[i]?=some v->bQ j M w c v
 | [],l,h=>by
  simp [jL] at h; subst h
  exact ⟨rfl,fun i c v h=>by simp at h⟩
 |v::r,l,h=>by
  simp only [jL] at h
  rw [Option.bind_eq_some_iff] at h
  obtain ⟨x,hx,h⟩:=h
  rw [Option.bind_eq_some_iff] at h
  obtain ⟨l',hl,h⟩:=h
  injection h with h; subst h
  obtain ⟨h1,h2⟩:=gJ hl
  refine ⟨by simp [h1],fun i c u hc hu=>?_⟩
  cases i with
  |zero=>simp at hc hu; subst hc; subst hu; exact zn hx
  |succ i=>exact h2 i c u (by simpa using hc) (by simpa using hu)
def zl {v:Value} {x:ae} (h:Gz v=some x):bQ j M w x v:=by
 unfold Gz at h
 split at h
 ·rename_i vs
  rw [Option.bind_eq_some_iff] at h
  obtain ⟨l,hl,h⟩:=h
  injection h with h; subst h
  obtain ⟨h1,h2⟩:=gJ (j:=j) (M:=M) (w:=w) hl
  exact .agg (by simpa using h1) fun i c v hc hv=>h2 i c v hc (by simpa using hv)
 ·exact zn h
def aN {env:Env} {a:Act} (he:aL j M w env a) {x:Operand} {y:cj} (h:bo x=some y):bQ j M w (y.ev env) (a.eval x):=by
 unfold bo at h
 split at h
 ·injection h with h; subst h; exact he.at' _
 ·rw [Option.bind_eq_some_iff] at h
  obtain ⟨z,hz,h⟩:=h
  injection h with h; subst h
  exact zl hz
 ·injection h with h; subst h
  exact .func (by simp) fun i c v hc=>by simp at hc
 ·rename_i g
  rw [Option.bind_eq_some_iff] at h
  obtain ⟨vs,hg,h⟩:=h
  rw [Option.bind_eq_some_iff] at h
  obtain ⟨l,hl,h⟩:=h
  injection h with h; subst h
  obtain ⟨h1,h2⟩:=zk (w:=w) (cu:=fJ j M w) hl
  refine .cW (b:=g) (off:=0) (vs:=fun k=>(vs[k]?).getD undef) fun k c hk=>?_
  have hk':=aj hk
  have hv:vs[k]?=some (vs[k]'(by omega)):=List.getElem?_eq_getElem (by omega)
  obtain ⟨h3,h4⟩:=he.gl.g g vs k _ hg hv
  rw [Nat.zero_add,h4,hv]
  exact ⟨rfl,h3,h2 k c _ hk hv⟩
def kV {env:Env} {a:Act} (he:aL j M w env a):∀ {xs:List Operand} {ys:List cj},mb xs=some ys ->
  ys.length=xs.length/\∀(i:Nat) (y:cj) (x:Operand),ys[i]?=some y->xs[i]?=some x->bQ j M w (y.ev env) (a.eval x)
 | [],ys,h=>by
  simp [mb] at h; subst h
  exact ⟨rfl,fun i y x h=>by simp at h⟩
 |x::r,ys,h=>by
  simp only [mb] at h
  rw [Option.bind_eq_some_iff] at h
  obtain ⟨y,hy,h⟩:=h
  rw [Option.bind_eq_some_iff] at h
  obtain ⟨l,hl,h⟩:=h
  injection h with h; subst h
  obtain ⟨h1,h2⟩:=kV he hl
  refine ⟨by simp [h1],fun i y' x' hy' hx'=>?_⟩
  cases i with
  |zero=>simp at hy' hx'; subst hy'; subst hx'; exact aN he hy
  |succ i=>exact h2 i y' x' (by simpa using hy') (by simpa using hx')
def bQ.df {b:Bool} {v:Value} (h:bQ j M w (.bool b) v):v = .bool b:=by cases h with|plain h=>cases h; rfl
def bQ.bH {k:IntKind} {n:Int} {v:Value} (h:bQ j M w (.int k n) v):v = .int k n:=by cases h with|plain h=>cases h; rfl
def bQ.dx {s:List UInt8} {v:Value} (h:bQ j M w (.str s) v):v = .string (bs s):=by cases h with|plain h=>cases h; rfl
def bQ.eK {cs:List ae} {v:Value} (h:bQ j M w (.agg cs) v):∃vs,v = .agg vs/\cs.length=vs.size/\∀(i:Nat) (c:ae) (u:Value),cs[i]?=some c->vs[i]?=some u->bQ j M w c u:=by
 cases h with
 |plain h=>cases h
 |agg hl h=>exact ⟨_,rfl,hl,h⟩
def bQ.kD {cs:List ae} {v:Value} (h:bQ j M w (.tuple cs) v):∃vs,v = .tuple vs/\cs.length=vs.size/\∀(i:Nat) (c:ae) (u:Value),cs[i]?=some c->vs[i]?=some u->bQ j M w c u:=by
 cases h with
 |plain h=>cases h
 |tuple hl h=>exact ⟨_,rfl,hl,h⟩
def bQ.jR {f:Nat} {cs:List ae} {v:Value} (h:bQ j M w (.func f cs) v):∃vs,v = .func (.func f) #[] vs/\cs.length=vs.size/\∀(i:Nat) (c:ae) (u:Value),cs[i]?=some c->vs[i]?=some u->bQ j M w c u:=by
 cases h with
 |plain h=>cases h
 |func hl h=>exact ⟨_,rfl,hl,h⟩
def bQ.gW {id off:Nat} {v:Value} (h:bQ j M w (.ptr id off) v):∃b,id<M.length/\(∃cs,M[id]?=some (.cells cs))/\j id=some b/\v = .pointer (some ⟨b,off,none⟩):=by
 cases h with
 |plain h=>cases h
 |ptr h1 h2 h3=>exact ⟨_,h1,h2,h3,rfl⟩
def bQ.mB {id:Nat} {v:Value} (h:bQ j M w (.cz id) v):∃b,(∃ks vs,M[id]?=some (.map ks vs))/\j id=some b/\v = .map (some b):=by
 cases h with
 |plain h=>cases h
 |cz h1 h2=>exact ⟨_,h1,h2,rfl⟩
def bQ.vm {id:Nat} {v:Value} (h:bQ j M w (.dp id) v):∃b,(∃s p,M[id]?=some (.fB s p))/\j id=some b/\v = .pointer (some ⟨b,0,none⟩):=by
 cases h with
 |plain h=>cases h
 |dp h1 h2=>exact ⟨_,h1,h2,rfl⟩
def bQ.yC {f:Nat} {fs:List ae} {v:Value} (h:bQ j M w (.iA f fs) v):∃vs:Array Value,v = .func (.func f) vs #[]/\fs.length=vs.size/\∀(i:Nat) (c:ae) (v:Value),fs[i]?=some c->vs[i]?=some v->ud w (fJ j M w) c v:=by
 cases h with
 |plain h=>cases h
 |iA hl h=>exact ⟨_,rfl,hl,h⟩
def bQ.wH {id t:Nat} {v:Value} (h:bQ j M w (.bI id t) v):∃b:Nat,(∃cs,M[id]?=some (.cells cs))/\j id=some b/\(∃vs fr,w.heap[b]?=some (.cells vs t fr))/\(v = .pointer none\/v = .pointer (some ⟨b,0,none⟩)):=by
 cases h with
 |plain h=>cases h
 |bI h1 h2 h3 h4=>exact ⟨_,h1,h2,h3,h4⟩
def bQ.Au {t id off:Nat} {v:Value} (h:bQ j M w (.dI t id off) v):∃b:Nat,(∃cs,M[id]?=some (.cells cs))/\j id=some b/\v = .iface t (.pointer (some ⟨b,off,none⟩)):=by
 cases h with
 |plain h=>cases h
 |dI h1 h2=>exact ⟨_,h1,h2,rfl⟩
def bQ.vE {k t:Nat} {x:Bool} {l:List UInt8} {v:Value} (h:bQ j M w (.cA k t x l) v):∃n,M[k]?=some (.tick 1 n)/\l.length<=n/\bF w (fJ j M w) (.slice .sh (l.map jk)) v/\(l.length=n->zh j w k n t x v):=by
 cases h with
 |plain h=>cases h
 |cA h1 h2 h3 h4=>exact ⟨_,h1,h2,h3,h4⟩
def bQ.zW {ks vs:List ae} {v:Value} (h:bQ j M w (.du ks vs) v):∃(b:Nat) (es:Array MapEntry) (clock:Nat),v = .map (some b)/\w.heap[b]?=some (.map es clock)/\ks.length=es.size/\vs.length=es.size /\
  (∀(i:Nat) (k:ae) (e:MapEntry),ks[i]?=some k->es[i]?=some e->bF w (fJ j M w) k e.key)/\∀(i:Nat) (v:ae) (e:MapEntry),vs[i]?=some v->es[i]?=some e->ud w (fJ j M w) v e.val:=by
 cases h with
 |plain h=>cases h
 |du hb hf hx hw hk hv hks hvs=>exact ⟨_,_,_,rfl,hw,hk,hv,hks,hvs⟩
def bQ.gm {id ver sz lo hi:Nat} {v:Value} (h:bQ j M w (.aZ id ver sz lo hi) v):((∃b off c,v = .slice (some ⟨b,off,none⟩) (hi-lo) c/\hi-lo<=c)\/hi-lo=0/\∃A,v = .slice A 0 0)/\id<M.length/\(∀bx,M[id]?=some bx->bx.loose=true) /\
  ∀sz' v' xs,M[id]?=some (.arr sz' v' xs)->ver<=v'/\(v'=ver->sz'=sz/\lo<=hi/\hi<=xs.length/\((xs=[]/\j id=none/\∃A,v = .slice A 0 0)\/∃b cap vs t,j id=some b/\v = .slice (some ⟨b,lo*sz,none⟩) (hi-lo) cap/\hi-lo<=cap/\w.heap[b]?=some (.cells vs t (0,0))/\(lo+cap)*sz<=vs.size)):=by
 cases h with
 |plain h=>cases h
 |aZ h0 h1 h2 h3=>exact ⟨h0,h1,h2,h3⟩
def bQ.qv {id ver sz lo hi:Nat} {v:Value} (h:bQ j M w (.aZ id ver sz lo hi) v):∃A cap,v = .slice A (hi-lo) cap:=by
 rcases h.gm.1 with ⟨b,off,c,e,_⟩|⟨e,A,e'⟩
 ·exact ⟨_,_,e⟩
 ·exact ⟨A,0,by rw [e,e']⟩
def bQ.Ms {id ver sz lo hi:Nat} {v:Value} (h:bQ j M w (.aZ id ver sz lo hi) v) (hne:lo<hi):∃b off c,v = .slice (some ⟨b,off,none⟩) (hi-lo) c/\hi-lo<=c :=
 h.gm.1.resolve_right fun e=>by omega
def bQ.jQ {id ver i off:Nat} {v:Value} (h:bQ j M w (.cV id ver i off) v):(∃b o,v = .pointer (some ⟨b,o,none⟩))/\id<M.length/\(∀bx,M[id]?=some bx->bx.loose=true) /\
  ∀sz v' xs,M[id]?=some (.arr sz v' xs)->ver<=v'/\(v'=ver->i<xs.length/\∃b,j id=some b/\v = .pointer (some ⟨b,i*sz+off,none⟩)):=by
 cases h with
 |plain h=>cases h
 |cV h0 h1 h2 h3=>exact ⟨h0,h1,h2,h3⟩
def bQ.kY {cs:List ae} {v:Value} (h:bQ j M w (.cW cs) v):∃(b off:Nat) (vs:Nat->Value),v = .pointer (some ⟨b,off,none⟩) /\
  ∀(k:Nat) (c:ae),cs[k]?=some c->w.cell? ⟨b,off+k,none⟩=some (vs k)/\fJ j M w b (off+k)/\bF w (fJ j M w) c (vs k):=by
 cases h with
 |plain h=>cases h
 | @cW _ b off vs h=>exact ⟨b,off,vs,rfl,h⟩
def bF.nil (cu:Nat->Nat->Prop) (A:Option Addr) (cap:Nat):bF w cu (.slice .sh []) (.slice A 0 cap) :=
 .slice [] A 0 cap 0 0 0 (fun _=>undef) rfl (Nat.zero_le _) (fun h=>absurd rfl h) (fun x h=>by simp at h) (fun i x k c h=>by simp at h) (fun i x k c h=>by simp at h)
def bQ.bg {tk:Tk} {xs:List ae} {v:Value} (h:bQ j M w (.slice tk xs) v):bF w (fJ j M w) (.slice .sh xs) v:=by
 cases h with
 |plain h=>cases h with|slice=>exact .slice _ _ _ _ _ _ _ _ (by assumption) (by assumption) (by assumption) (by assumption) (by assumption) (by assumption)
 |c0 A=>exact bF.nil _ _ _
 |own _ _ h _=>exact h
def bF.bg {cu:Nat->Nat->Prop} {xs:List ae} {v:Value} (h:bF w cu (.slice .sh xs) v):∃(A:Option Addr) (cap b off sz:Nat) (vs:Nat->Value),v = .slice A xs.length cap/\xs.length<=cap/\(xs≠[]->A=some ⟨b,off,none⟩) /\
  (∀x,x∈xs->x.cells.length=sz)/\(∀(i:Nat) (x:ae) (k:Nat) (c:ae),xs[i]?=some x->x.cells[k]?=some c->w.cell? ⟨b,off+(i*sz+k),none⟩=some (vs (i*sz+k))/\cu b (off+(i*sz+k))) /\
  (∀(i:Nat) (x:ae) (k:Nat) (c:ae),xs[i]?=some x->x.cells[k]?=some c->bF w cu c (vs (i*sz+k))):=by
 cases h with
 |slice _ A len cap b off sz vs hl hc ha hz hs hr=>subst hl; exact ⟨A,cap,b,off,sz,vs,rfl,hc,ha,hz,hs,hr⟩
end
def im (P:Program) (o:Oper) (a:Act) (w:World) (v:Value) (w':World):Prop :=
 (execOp a.eval o).run P w = .ok (.value v) w'\/((execOp a.eval o).run P w = .ok .skip w'/\v=undef)
def an {α β:Type} {x:Option α} {f:α->Option β} {y:β} (h:x.bind f=some y):∃a,x=some a/\f a=some y:=by
 cases x with
 |none=>cases h
 |some a=>exact ⟨a,rfl,h⟩
section
variable {P:Program} {C:bt} {o:Oper} {env:Env} {M:ag} {j:J} {w:World} {a:Act} {x:ae×ag}
def bf {t:TypeId} {d:TypeDesc} (h:P.underlying t=some d):(underlying t).run P w = .ok d w:=by simp [underlying,h]
def gu {t:TypeId} {i:TypeInfo} (h:P.info? t=some i):(typeInfo t).run P w = .ok i w:=by simp [typeInfo,h]
def vZ {t:TypeId} {n:Nat} (h:hZ P t=some n):∃i,P.info? t=some i/\i.size=n:=by
 obtain ⟨i,h1,h2⟩:=an h
 exact ⟨i,h1,by injection h2⟩
def cY {t:TypeId} {n:Nat} (h:hZ P t=some n):(sizeOf t).run P w = .ok n w:=by
 obtain ⟨i,h1,h2⟩:=vZ h
 simp [sizeOf,gu h1,h2]
def dZ {t:TypeId} {g:Bool} (h:qu P t=some g):(isAgg t).run P w = .ok g w:=by
 obtain ⟨d,h1,h2⟩:=an h
 injection h2 with h2
 subst h2
 simp only [isAgg,Sem.run_bind,bf h1,Result.andThen_ok]
 cases d<;>rfl
def eV (b off n:Nat):(⟨b,off,none⟩:Addr).add n=⟨b,off+n,none⟩:=by
 unfold Addr.add; split<;>simp_all
def uv (hr:Rel j M w) (he:aL j M w env a) {y:Operand} {z:cj} (hop:o.op = .move y\/o.op = .assign y) (hz:bo y=some z) (h:bd C env M (.mv z)=some x) :
  ∃v w',im P o a w v w'/\cG j M w x v w':=by
 simp only [bd] at h; injection h with h; subst h
 exact ⟨a.eval y,w,.inl (by rcases hop with hop|hop<;>simp [execOp,hop]),.still hr (aN he hz)⟩
def OG (hr:Rel j M w) (he:aL j M w env a) {c p q:Operand} {c' p' q':cj} (hop:o.op = .pick c p q) (hc:bo c=some c') (hp:bo p=some p') (hq:bo q=some q')
  (h:bd C env M (.pick c' p' q')=some x):∃v w',im P o a w v w'/\cG j M w x v w':=by
 simp only [bd] at h
 have h1:=aN he hc
 split at h
 ·rename_i t ht
  rw [ht] at h1
  have h1:=h1.df
  rcases dw h with ⟨rfl,h⟩|⟨rfl,h⟩<;>(injection h with h; subst h)
  ·exact ⟨a.eval p,w,.inl (by simp [execOp,hop,asBool,h1]),.still hr (aN he hp)⟩
  ·exact ⟨a.eval q,w,.inl (by simp [execOp,hop,asBool,h1]),.still hr (aN he hq)⟩
 ·cases h
def S0 (hr:Rel j M w) (he:aL j M w env a) {y:Operand} {z:cj} (hop:o.op = .nilCheck y) (hz:bo y=some z) (h:bd C env M (.MH z)=some x) :
  ∃v w',im P o a w v w'/\cG j M w x v w':=by
 simp only [bd] at h
 have h1:=aN he hz
 split at h
 ·rename_i id off e
  injection h with h; subst h
  rw [e] at h1
  obtain ⟨b,_,_,_,hv⟩:=h1.gW
  exact ⟨_,w,.inl (by simp only [execOp,hop,hv]; rfl),.still hr (hv▸h1)⟩
 ·rename_i cs e
  injection h with h; subst h
  rw [e] at h1
  obtain ⟨b,off,vs,hv,_⟩:=h1.kY
  exact ⟨_,w,.inl (by simp only [execOp,hop,hv]; rfl),.still hr (hv▸h1)⟩
 ·rename_i f caps e
  injection h with h; subst h
  rw [e] at h1
  obtain ⟨vs,hv,_⟩:=h1.jR
  exact ⟨_,w,.inl (by simp only [execOp,hop,hv]; rfl),.still hr (hv▸h1)⟩
 ·rename_i id v0 i off e
  injection h with h; subst h
  rw [e] at h1
  obtain ⟨⟨b,q,hv⟩,_⟩:=h1.jQ
  exact ⟨_,w,.inl (by simp only [execOp,hop,hv]; rfl),.still hr (hv▸h1)⟩
 ·cases h
def S2 (hr:Rel j M w) (he:aL j M w env a) {y:Operand} {z:cj} {t:TypeId} (hop:o.op = .unOp .not t y) (hz:bo y=some z) (h:bd C env M (.not z)=some x) :
  ∃v w',im P o a w v w'/\cG j M w x v w':=by
 simp only [bd] at h
 have h1:=aN he hz
 split at h
 ·rename_i b e
  injection h with h; subst h
  rw [e] at h1
  exact ⟨_,w,.inl (by simp only [execOp,hop,h1.df]; rfl),.still hr (.plain (.bool _))⟩
 ·cases h
def S1 (hr:Rel j M w) (he:aL j M w env a) {y:Operand} {z:cj} {t:TypeId} (hop:o.op = .unOp .neg t y) (hz:bo y=some z) (h:bd C env M (.neg z)=some x) :
  ∃v w',im P o a w v w'/\cG j M w x v w':=by
 simp only [bd] at h
 have h1:=aN he hz
 split at h
 ·rename_i k n e
  injection h with h; subst h
  rw [e] at h1
  exact ⟨_,w,.inl (by simp only [execOp,hop,h1.bH]; rfl),.still hr (.plain (.int _ _))⟩
 ·cases h
def Oz (hr:Rel j M w) (he:aL j M w env a) {y:Operand} {z:cj} {s d:TypeId} {k0 k:IntKind} (hop:o.op = .convert s d y) (hs:P.underlying s=some (.int k0)) (hd:P.underlying d=some (.int k))
  (hz:bo y=some z) (h:bd C env M (.conv k z)=some x):∃v w',im P o a w v w'/\cG j M w x v w':=by
 simp only [bd] at h
 have h1:=aN he hz
 split at h
 ·rename_i k1 n e
  injection h with h; subst h
  rw [e] at h1
  refine ⟨.int k (k.wrap n),w,.inl ?_,.still hr (.plain (.int _ _))⟩
  simp [execOp,hop,convert,bf hs,bf hd,h1.bH,Conv.intToInt]
 ·cases h
def OI (hr:Rel j M w) (he:aL j M w env a) {y:Operand} {z:cj} {s d:TypeId} (hop:o.op = .convert s d y) (hs:P.underlying s=some .string) (hd:P.underlying d=some .string)
  (hz:bo y=some z) (h:bd C env M (.same z)=some x):∃v w',im P o a w v w'/\cG j M w x v w':=by
 simp only [bd] at h
 have h1:=aN he hz
 split at h
 ·rename_i l e
  injection h with h; subst h
  rw [e] at h1
  refine ⟨.string (bs l),w,.inl ?_,.still hr (.plain (.str _))⟩
  simp [execOp,hop,convert,bf hs,bf hd,h1.dx]
 ·cases h
def Zi (hr:Rel j M w) (he:aL j M w env a) {f:Nat} {first caps:Array Operand} {zs:List cj} (hop:o.op = .makeFunc (.func f) first caps) (hf:first.isEmpty=true) (hz:mb caps.toList=some zs)
  (h:bd C env M (.fn f zs)=some x):∃v w',im P o a w v w'/\cG j M w x v w':=by
 simp only [bd] at h
 injection h with h; subst h
 obtain ⟨h1,h2⟩:=kV he hz
 have hf':first = #[]:=by simpa using hf
 refine ⟨.func (.func f) #[] (caps.map a.eval),w,.inl ?_,.still hr (.func (by simpa using h1) fun i c v hc hv=>?_)⟩
 ·simp [execOp,hop,Instr.makeFunc,hf']
 ·rw [List.getElem?_map,Option.map_eq_some_iff] at hc
  obtain ⟨y,hy,rfl⟩:=hc
  rw [Array.getElem?_map,Option.map_eq_some_iff] at hv
  obtain ⟨z,hz',rfl⟩:=hv
  exact h2 i y z hy (by simpa using hz')
def CM (hr:Rel j M w) (he:aL j M w env a) {y:Operand} {z:cj} {i:Nat} (hop:o.op = .extract y i) (hz:bo y=some z) (h:bd C env M (.extract z i)=some x) :
  ∃v w',im P o a w v w'/\cG j M w x v w':=by
 simp only [bd] at h
 have h1:=aN he hz
 split at h
 ·rename_i vs e
  obtain ⟨c,hc,h⟩:=au h
  injection h with h; subst h
  rw [e] at h1
  obtain ⟨us,hv,hl,hu⟩:=h1.kD
  rw [bE] at hc
  have hi:=aj hc
  have hui:us[i]?=some (us[i]'(by omega)):=Array.getElem?_eq_getElem (by omega)
  exact ⟨_,w,.inl (by simp [execOp,hop,Instr.extract,hv,hui]),.still hr (hu i c _ hc hui)⟩
 ·cases h
def OB (hr:Rel j M w) (he:aL j M w env a) {c:Call} {y:Operand} {z:cj} {t:TypeId} (hop:o.op = .call c) (hb:c.callee = .builtin .len) (ha:c.args.toList=[y])
  (ht:c.argTypes[0]?=some t) (hs:P.underlying t=some .string) (hz:bo y=some z) (h:bd C env M (.Fm z)=some x):∃v w',im P o a w v w'/\cG j M w x v w':=by
 simp only [bd] at h
 have h1:=aN he hz
 split at h
 ·rename_i l e
  injection h with h; subst h
  rw [e] at h1
  have ha':c.args = #[y]:=by rw [<-ha]
  refine ⟨.int .i64 l.length,w,.inl ?_,.still hr (.plain (.int _ _))⟩
  have hsz:(bs l).size=l.length:=by simp [bs,ByteArray.size]
  simp [execOp,hop,resolve,hb,invoke,builtin,Builtin.len_,ha',ht,bf hs,h1.dx,goInt,hsz]
 ·cases h
def OC (hr:Rel j M w) (he:aL j M w env a) {c:Call} {y:Operand} {z:cj} {t e:TypeId} (hop:o.op = .call c) (hb:c.callee = .builtin .len) (ha:c.args.toList=[y])
  (ht:c.argTypes[0]?=some t) (hs:P.underlying t=some (.slice e)) (hz:bo y=some z) (h:bd C env M (.vr z)=some x):∃v w',im P o a w v w'/\cG j M w x v w':=by
 simp only [bd] at h
 have h1:=aN he hz
 split at h
 ·rename_i tk l e
  injection h with h; subst h
  rw [e] at h1
  have ha':c.args = #[y]:=by rw [<-ha]
  obtain ⟨A,cap,b,off,sz,vs,hv,_⟩:=h1.bg.bg
  refine ⟨.int .i64 l.length,w,.inl ?_,.still hr (.plain (.int _ _))⟩
  simp [execOp,hop,resolve,hb,invoke,builtin,Builtin.len_,ha',ht,bf hs,hv,goInt]
 ·rename_i id v0 sz lo hi e
  injection h with h; subst h
  rw [e] at h1
  have ha':c.args = #[y]:=by rw [<-ha]
  obtain ⟨A,cap,hv⟩:=h1.qv
  refine ⟨.int .i64 (hi-lo:Nat),w,.inl ?_,.still hr (.plain (.int _ _))⟩
  simp [execOp,hop,resolve,hb,invoke,builtin,Builtin.len_,ha',ht,bf hs,hv,goInt]
 ·cases h
def xB (hr:Rel j M w) (he:aL j M w env a) {c:Call} {y y':Operand} {z z':cj} {mx:Bool} (hop:o.op = .call c) (hb:c.callee = .builtin (if mx then .max else .min)) (ha:c.args.toList=[y,y'])
  (hz:bo y=some z) (hz':bo y'=some z') (h:bd C env M (.qe mx z z')=some x):∃v w',im P o a w v w'/\cG j M w x v w':=by
 simp only [bd] at h
 have h1:=aN he hz
 have h2:=aN he hz'
 split at h
 ·rename_i k n k' n' e e'
  injection h with h; subst h
  rw [e] at h1
  rw [e'] at h2
  have ha':c.args = #[y,y']:=by rw [<-ha]
  refine ⟨_,w,.inl ?_,.still hr (.plain (.int _ _))⟩
  cases mx
  ·simp [execOp,hop,resolve,hb,invoke,builtin,Builtin.min_,Builtin.min2,ha',h1.bH,h2.bH,List.foldlM]
  ·simp [execOp,hop,resolve,hb,invoke,builtin,Builtin.max_,Builtin.max2,ha',h1.bH,h2.bH,List.foldlM]
 ·cases h
def FI (hr:Rel j M w) (he:aL j M w env a) {y i:Operand} {z z':cj} {t:TypeId} (hop:o.op = .index t y i) (ht:P.underlying t=some .string) (hz:bo y=some z) (hz':bo i=some z')
  (h:bd C env M (.nZ z z')=some x):∃v w',im P o a w v w'/\cG j M w x v w':=by
 simp only [bd] at h
 have h1:=aN he hz
 have h2:=aN he hz'
 split at h
 ·rename_i l k n e e'
  obtain ⟨hn,h⟩:=aP h
  obtain ⟨b,hb,h⟩:=au h
  injection h with h; subst h
  rw [e] at h1
  rw [e'] at h2
  refine ⟨.int .u8 b.toNat,w,.inl ?_,.still hr (.plain (.int _ _))⟩
  have hg:(bs l)[n.toNat]?=some b:=by
   have hlt:=aj hb
   have:n.toNat<(bs l).size:=by simp [bs,ByteArray.size]; exact hlt
   rw [getElem?_pos (bs l) n.toNat this]
   congr 1
   have h3:l[n.toNat]=b:=by
    have:=List.getElem?_eq_getElem hlt
    rw [hb] at this; injection this with this; exact this.symm
   exact h3
  simp [execOp,hop,Instr.index,asIntOf,bf ht,h1.dx,h2.bH,hn,hg]
 ·cases h
def FE (hr:Rel j M w) (he:aL j M w env a) {y:Operand} {z:cj} {s:TypeId} {fs:Array Field} {f:Field} {i:Nat} (hop:o.op = .field s y i) (hs:P.underlying s=some (.struct fs)) (hf:fs[i]?=some f)
  (hg:qu P f.type=some false) (hz:bo y=some z) (h:bd C env M (.sd f.offset z)=some x):∃v w',im P o a w v w'/\cG j M w x v w':=by
 simp only [bd] at h
 have h1:=aN he hz
 split at h
 ·rename_i cs e
  obtain ⟨c,hc,h⟩:=au h
  injection h with h; subst h
  rw [e] at h1
  obtain ⟨us,hv,hl,hu⟩:=h1.eK
  rw [bE] at hc
  have hi:=aj hc
  have hui:us[f.offset]?=some (us[f.offset]'(by omega)):=Array.getElem?_eq_getElem (by omega)
  refine ⟨_,w,.inl ?_,.still hr (hu _ c _ hc hui)⟩
  simp [execOp,hop,Instr.field,bf hs,hf,asAgg,hv,part,dZ hg,hui]
 ·cases h
def FF (hr:Rel j M w) (he:aL j M w env a) {y:Operand} {z:cj} {s:TypeId} {fs:Array Field} {f:Field} {i n:Nat} (hop:o.op = .field s y i) (hs:P.underlying s=some (.struct fs)) (hf:fs[i]?=some f)
  (hg:qu P f.type=some true) (hn:hZ P f.type=some n) (hz:bo y=some z) (h:bd C env M (.se f.offset n z)=some x):∃v w',im P o a w v w'/\cG j M w x v w':=by
 simp only [bd] at h
 have h1:=aN he hz
 split at h
 ·rename_i cs e
  split at h
  ·rename_i hle
   injection h with h; subst h
   rw [e] at h1
   obtain ⟨us,hv,hl,hu⟩:=h1.eK
   refine ⟨.agg (us.extract f.offset (f.offset+n)),w,.inl ?_,.still hr (.agg (by simp; omega) fun p c u hc hu'=>?_)⟩
   ·simp [execOp,hop,Instr.field,bf hs,hf,asAgg,hv,part,dZ hg,cY hn]
   ·have hp:p<n:=by have:=aj hc; simp at this; omega
    rw [List.getElem?_take_of_lt hp,List.getElem?_drop] at hc
    rw [Array.getElem?_extract] at hu'
    split at hu'
    ·exact hu _ c u hc hu'
    ·cases hu'
  ·cases h
 ·cases h
def K4 (hr:Rel j M w) (he:aL j M w env a) {y:Operand} {z:cj} {s:TypeId} {fs:Array Field} {f:Field} {i:Nat} (hop:o.op = .fieldAddr s y i) (hs:P.underlying s=some (.struct fs)) (hf:fs[i]?=some f)
  {n:Nat} (hn:hZ P f.type=some n) (hpos:0<n) (hz:bo y=some z) (h:bd C env M (.cX f.offset z)=some x):∃v w',im P o a w v w'/\cG j M w x v w':=by
 simp only [bd] at h
 have h1:=aN he hz
 have hrun:∀b off,a.eval y = .pointer (some ⟨b,off,none⟩)->(execOp a.eval o).run P w = .ok (.value (.pointer (some ⟨b,off+f.offset,none⟩))) w:=by
  intro b off hv
  have hne:n≠0:=by omega
  simp [execOp,hop,Instr.fieldAt,bf hs,hf,Instr.sureAddr,hv,fieldPlace,cY hn,hne,eV]
 split at h
 ·rename_i id off e
  injection h with h; subst h
  rw [e] at h1
  obtain ⟨b,h2,h3,h4,hv⟩:=h1.gW
  exact ⟨_,w,.inl (hrun _ _ hv),.still hr (.ptr h2 h3 h4)⟩
 ·rename_i cs e
  injection h with h; subst h
  rw [e] at h1
  obtain ⟨b,off,vs,hv,hc⟩:=h1.kY
  refine ⟨_,w,.inl (hrun _ _ hv),.still hr (.cW (vs:=fun k=>vs (f.offset+k)) fun k c hk=>?_)⟩
  rw [List.getElem?_drop] at hk
  have:=hc _ c hk
  rw [Nat.add_assoc]
  exact this
 ·rename_i id v0 i0 o0 e
  injection h with h; subst h
  rw [e] at h1
  obtain ⟨⟨b,q,hv⟩,h2,h3,h4⟩:=h1.jQ
  refine ⟨_,w,.inl (hrun _ _ hv),.still hr (.cV ⟨_,_,rfl⟩ h2 h3 fun sz v' xs hM=>?_)⟩
  obtain ⟨g1,g2⟩:=h4 sz v' xs hM
  refine ⟨g1,fun he=>?_⟩
  obtain ⟨g3,b',g4,g5⟩:=g2 he
  rw [hv] at g5
  injection g5 with g5; injection g5 with g5; injection g5 with e1 e2 e3
  subst e1; subst e2
  exact ⟨g3,_,g4,by rw [Nat.add_assoc]⟩
 ·cases h
end
def MD (l:List UInt8):∀(n i:Nat) (acc:List UInt8),i+n=l.length->ByteArray.toList.loop (bs l) i acc=acc.reverse++l.drop i:=by
 intro n
 induction n with
 |zero =>
  intro i acc h
  have hs:(bs l).size=l.length:=by simp [bs,ByteArray.size]
  rw [ByteArray.toList.loop,if_neg (by omega)]
  simp [show i=l.length by omega]
 |succ n ih =>
  intro i acc h
  have hs:(bs l).size=l.length:=by simp [bs,ByteArray.size]
  rw [ByteArray.toList.loop,if_pos (by omega),ih (i+1) _ (by omega)]
  have hg:(bs l).get! i=l[i]'(by omega):=by
   have hi:i<l.length:=by omega
   simp [bs,ByteArray.get!,hi]
  rw [hg,List.reverse_cons,List.append_assoc,List.singleton_append,<-List.drop_eq_getElem_cons]
def ma (l:List UInt8):(bs l).toList=l:=by
 rw [ByteArray.toList,MD l l.length 0 [] (by omega)]; simp
def qP (l:List UInt8):(bs l).size=l.length:=by simp [bs,ByteArray.size]
def Bk:∀a b:List UInt8,Op.bytesLess a b=strLt a b
 | [],[]=>rfl
 | [],_::_=>rfl
 |_::_,[]=>rfl
 |a::x,b::y=>by simp [Op.bytesLess,strLt,Bk x y]
def Ez (a b:List UInt8):bs a++bs b=bs (a++b):=by
 apply ByteArray.ext
 simp [bs,ByteArray.data_append]
def mT (a:List UInt8) (l h:Nat):(bs a).extract l h=bs ((a.take h).drop l):=by
 apply ByteArray.ext
 simp [bs,ByteArray.data_extract,List.drop_take]
section
variable {P:Program} {C:bt} {o:Oper} {env:Env} {M:ag} {j:J} {w:World} {a:Act} {x:ae×ag}
def E9 (op:BinOp) (t:TypeId) (y z:Operand) (k k':IntKind) (m n:Int):(eqGuard op t y z (.int k m) (.int k' n)).run P w = .ok () w:=by
 unfold eqGuard; cases op<;>simp
def Fa (op:BinOp) (t:TypeId) (y z:Operand) (m n:ByteArray):(eqGuard op t y z (.string m) (.string n)).run P w = .ok () w:=by
 unfold eqGuard; cases op<;>simp
def vh (op:BinOp) (t:TypeId) (y z:Operand) (m n:Bool):(eqGuard op t y z (.bool m) (.bool n)).run P w = .ok () w:=by
 unfold eqGuard; cases op<;>simp
def Mz {op:BinOp} {b:Ef} (hb:EB op=some b) {t:TypeId} {k k':IntKind} {m n:Int} {r:ae} (h:iq b (.int k m) (.int k' n)=some r) :
  ∃v,(binOp op t (.int k m) (.int k' n)).run P w = .ok v w/\bF w (fJ j M w) r v:=by
 cases op<;>simp only [EB,reduceCtorEq,Option.some.injEq] at hb<;>subst hb<;>simp only [iq] at h
 case shl =>
  split at h
  ·rename_i hn
   injection h with h; subst h
   exact ⟨_,by simp [binOp,Op.shift,Int.not_lt.2 hn],.int _ _⟩
  ·cases h
 case shr =>
  split at h
  ·rename_i hn
   injection h with h; subst h
   exact ⟨_,by simp [binOp,Op.shift,Int.not_lt.2 hn],.int _ _⟩
  ·cases h
 case quo =>
  split at h
  ·cases h
  ·rename_i hk
   split at h
   ·cases h
   ·rename_i hn
    injection h with h; subst h
    have hk:k=k':=by simpa using hk
    subst hk
    exact ⟨_,by simp [binOp,Op.intDiv,hn],.int _ _⟩
 case rem =>
  split at h
  ·cases h
  ·rename_i hk
   split at h
   ·cases h
   ·rename_i hn
    injection h with h; subst h
    have hk:k=k':=by simpa using hk
    subst hk
    exact ⟨_,by simp [binOp,Op.intDiv,hn],.int _ _⟩
 case and =>
  split at h
  ·cases h
  ·rename_i hk
   injection h with h; subst h
   have hk:k=k':=by simpa using hk
   subst hk
   exact ⟨_,by simp [binOp,Op.intBits]; rfl,.int _ _⟩
 case or =>
  split at h
  ·cases h
  ·rename_i hk
   injection h with h; subst h
   have hk:k=k':=by simpa using hk
   subst hk
   exact ⟨_,by simp [binOp,Op.intBits]; rfl,.int _ _⟩
 case xor =>
  split at h
  ·cases h
  ·rename_i hk
   injection h with h; subst h
   have hk:k=k':=by simpa using hk
   subst hk
   exact ⟨_,by simp [binOp,Op.intBits]; rfl,.int _ _⟩
 all_goals
  split at h
  ·cases h
  ·rename_i hk
   injection h with h; subst h
   have hk:k=k':=by simpa using hk
   subst hk
   first
    |exact ⟨_,by simp [binOp,Op.intArith],.int _ _⟩
    |exact ⟨_,by simp [binOp,Op.intCmp],.bool _⟩
def MA {op:BinOp} {b:Ef} (hb:EB op=some b) {t:TypeId} {m n:List UInt8} {r:ae} (h:iq b (.str m) (.str n)=some r) :
  ∃v,(binOp op t (.string (bs m)) (.string (bs n))).run P w = .ok v w/\bF w (fJ j M w) r v:=by
 cases op<;>simp only [EB,reduceCtorEq,Option.some.injEq] at hb<;>subst hb<;>simp only [iq,reduceCtorEq] at h
 case add =>
  split at h
  ·cases h
  ·rename_i hn
   injection h with h; subst h
   refine ⟨.string (bs m++bs n),?_,by rw [Ez]; exact .str _⟩
   simp only [binOp,Op.stringOp,qP]
   rw [if_neg hn]
   rfl
 all_goals
  injection h with h; subst h
  exact ⟨_,by simp only [binOp,Op.stringOp,ma,Bk]; rfl,.bool _⟩
def KW (hr:Rel j M w) (he:aL j M w env a) {op:BinOp} {b:Ef} {y y':Operand} {z z':cj} {t t':TypeId} (hop:o.op = .binOp op t y y' t') (hb:EB op=some b) (hz:bo y=some z) (hz':bo y'=some z')
  (h:bd C env M (.bin b z z')=some x):∃v w',im P o a w v w'/\cG j M w x v w':=by
 simp only [bd] at h
 have h1:=aN he hz
 have h2:=aN he hz'
 obtain ⟨r,hr',h⟩:=au h
 injection h with h; subst h
 generalize hu:z.ev env=u at *
 generalize hu':z'.ev env=u' at *
 cases u<;>cases u'<;>try (simp [iq] at hr'; done)
 ·rename_i k m k' n
  obtain ⟨v,hv,hp⟩:=Mz (P:=P) (w:=w) (j:=j) (M:=M) (t:=t) hb hr'
  exact ⟨v,w,.inl (by simp [execOp,hop,h1.bH,h2.bH,E9,hv]),.still hr (.plain hp)⟩
 ·rename_i m n
  obtain ⟨v,hv,hp⟩:=MA (P:=P) (w:=w) (j:=j) (M:=M) (t:=t) hb hr'
  exact ⟨v,w,.inl (by simp [execOp,hop,h1.dx,h2.dx,Fa,hv]),.still hr (.plain hp)⟩
def K3 (hr:Rel j M w) (he:aL j M w env a) {neg:Bool} {y y':Operand} {z z':cj} {t t':TypeId} (hop:o.op = .binOp (if neg then .neq else .eql) t y y' t') (ht:P.underlying t=some .bool)
  (hz:bo y=some z) (hz':bo y'=some z') (h:bd C env M (.QY neg z z')=some x):∃v w',im P o a w v w'/\cG j M w x v w':=by
 simp only [bd] at h
 have h1:=aN he hz
 have h2:=aN he hz'
 split at h
 ·rename_i m n e e'
  injection h with h; subst h
  rw [e] at h1
  rw [e'] at h2
  have heq:(Op.equal t (.bool m) (.bool n)).run P w = .ok (m==n) w:=by
   unfold Op.equal
   rw [show Op.maxDepth=9999+1 from rfl,Op.equalIn]
   simp [bf ht]
  cases neg
  ·exact ⟨.bool (m==n),w,.inl (by simp [execOp,hop,h1.df,h2.df,vh,binOp,heq]),.still hr (.plain (.bool _))⟩
  ·exact ⟨.bool (!(m==n)),w,.inl (by simp [execOp,hop,h1.df,h2.df,vh,binOp,heq]),.still hr (.plain (.bool _))⟩
 ·cases h
def iB {env:Env} {a:Act} (he:aL j M w env a) {y:Operand} {z:cj} (hz:bo y=some z) {n:Nat} {i:Int} (h:bO env n (some z)=some i) {m:Nat} (h0:0<=i) (h1:i<=m) (code:BoundsCode) :
  (Instr.sliceBound (a.eval y) m code).run P w = .ok i.toNat w:=by
 unfold bO at h
 have h2:=aN he hz
 simp only at h
 split at h
 ·rename_i k i' e
  injection h with h; subst h
  rw [e] at h2
  simp [Instr.sliceBound,h2.bH,asIntOf,h0,h1]
 ·cases h
def iP {y:Option Operand} {z:Option cj} (h:rX y=some z):(y=none/\z=none)\/∃y' z',y=some y'/\z=some z'/\bo y'=some z':=by
 cases y with
 |none=>simp [rX] at h; exact .inl ⟨rfl,h.symm⟩
 |some y =>
  simp only [rX] at h
  obtain ⟨z',h1,h2⟩:=an h
  injection h2 with h2
  exact .inr ⟨y,z',rfl,h2.symm,h1⟩
def pQ {env:Env} {a:Act} (he:aL j M w env a) {lo hi:Option Operand} {lo' hi':Option cj} (hlo:rX lo=some lo') (hhi:rX hi=some hi') {len cap:Nat} {l h:Int}
  (h1:bO env len hi'=some h) (h2:bO env 0 lo'=some l) (hh0:0<=h) (hh:h<=len) (hl0:0<=l) (hl:l<=h) (hc:len<=cap) (isS:Bool) :
  (Instr.sliceBounds isS len cap (lo.map a.eval) (hi.map a.eval) none).run P w = .ok (l.toNat,h.toNat,cap) w:=by
 unfold Instr.sliceBounds
 have hhn:((h.toNat:Nat):Int)=h:=Int.toNat_of_nonneg hh0
 rcases iP hhi with ⟨rfl,rfl⟩|⟨y,z,rfl,rfl,hz⟩<;>rcases iP hlo with ⟨rfl,rfl⟩|⟨y',z',rfl,rfl,hz'⟩
 ·simp [bO] at h1 h2; subst h1; subst h2; simp
 ·simp [bO] at h1; subst h1
  have:=iB (P:=P) he hz' h2 hl0 (m:=len) (by omega) .sliceB
  simp [this]
 ·simp [bO] at h2; subst h2
  have:=iB (P:=P) he hz h1 hh0 (m:=cap) (by omega) (if isS then .sliceAcap else .sliceAlen)
  simp [this]
 ·have t1:=iB (P:=P) he hz h1 hh0 (m:=cap) (by omega) (if isS then .sliceAcap else .sliceAlen)
  have t2:=iB (P:=P) he hz' h2 hl0 (m:=h.toNat) (by omega) .sliceB
  simp [t1,t2]
def FJ (hr:Rel j M w) (he:aL j M w env a) {y:Operand} {lo hi:Option Operand} {z:cj} {lo' hi':Option cj} {t:TypeId} (hop:o.op = .slice t y lo hi none) (ht:P.underlying t=some .string)
  (hz:bo y=some z) (hlo:rX lo=some lo') (hhi:rX hi=some hi') (h:bd C env M (.oB z lo' hi')=some x):∃v w',im P o a w v w'/\cG j M w x v w':=by
 simp only [bd] at h
 have h1:=aN he hz
 split at h
 ·rename_i s e
  obtain ⟨hh,h2,h⟩:=au h
  obtain ⟨l,h3,h⟩:=au h
  obtain ⟨⟨c1,c2,c3,c4⟩,h⟩:=aP h
  injection h with h; subst h
  rw [e] at h1
  have hb:=pQ (P:=P) he hlo hhi (cap:=s.length) h2 h3 c1 c2 c3 c4 (Nat.le_refl _) false
  refine ⟨.string (bs ((s.take hh.toNat).drop l.toNat)),w,.inl ?_,.still hr (.plain (.str _))⟩
  simp [execOp,hop,Instr.sliceAt,bf ht,Instr.slice,h1.dx,qP,hb,mT]
 ·cases h
def bF.part {cu:Nat->Nat->Prop} {xs:List ae} {A:Option Addr} {cap m l h n:Nat} (hx:bF w cu (.slice .sh xs) (.slice A xs.length cap)) (hw:wid xs n) (hl:l<=h) (hh:h<=xs.length) (hm:h<=m) :
  bF w cu (.slice .sh ((xs.take h).drop l)) (.slice (if m=l then A else A.map (·.add (l*n))) (h-l) (m-l)):=by
 obtain ⟨A',cap',b,off,sz,vs,hv,hc,ha,hz,hs,hrp⟩:=hx.bg
 injection hv with e1 e2 e3
 subst e1; subst e3
 have hlen:((xs.take h).drop l).length=h-l:=by simp; omega
 have el:∀i x,((xs.take h).drop l)[i]?=some x->xs[l+i]?=some x/\i<h-l:=by
  intro i x hi
  have hlt:=aj hi
  rw [hlen] at hlt
  rw [List.getElem?_drop,List.getElem?_take_of_lt (by omega)] at hi
  exact ⟨hi,hlt⟩
 refine .slice _ _ _ _ b (off+l*sz) sz (fun p=>vs (l*sz+p)) hlen.symm (by omega) (fun hne=>?_) (fun x hx=>hz x (List.mem_of_mem_take (List.mem_of_mem_drop hx))) (fun i x k c hi hk=>?_) (fun i x k c hi hk=>?_)
 ·have:0<h-l:=by
   rw [<-hlen]; exact List.length_pos_iff.2 hne
  rw [if_neg (by omega)]
  have hne':xs≠[]:=by rintro rfl; simp at hne
  rw [ha hne']
  have:n=sz:=by
   obtain ⟨x,r,rfl⟩:=List.exists_cons_of_ne_nil hne'
   rw [<-hw x (by simp),hz x (by simp)]
  simp [eV,this]
 ·obtain ⟨h1,_⟩:=el i x hi
  have:=hs (l+i) x k c h1 hk
  rw [show (l+i)*sz+k=l*sz+(i*sz+k) by rw [Nat.add_mul]; omega] at this
  rw [show off+l*sz+(i*sz+k)=off+(l*sz+(i*sz+k)) by omega]
  exact this
 ·obtain ⟨h1,_⟩:=el i x hi
  have:=hrp (l+i) x k c h1 hk
  rw [show (l+i)*sz+k=l*sz+(i*sz+k) by rw [Nat.add_mul]; omega] at this
  exact this
def FL (hr:Rel j M w) (he:aL j M w env a) {y:Operand} {lo hi mx:Option Operand} {z:cj} {lo' hi' mx':Option cj} {t e:TypeId} {n:Nat} (hop:o.op = .slice t y lo hi mx) (ht:P.underlying t=some (.slice e))
  (hn:hZ P e=some n) (hz:bo y=some z) (hlo:rX lo=some lo') (hhi:rX hi=some hi') (hmx:rX mx=some mx') (hmh:mx'.isNone=true\/hi'.isSome=true)
  (h:bd C env M (.qh n z lo' hi' mx')=some x):∃v w',im P o a w v w'/\cG j M w x v w':=by
 simp only [bd] at h
 have h1:=aN he hz
 split at h
 ·rename_i tk xs ez
  obtain ⟨hw,h⟩:=aP h
  obtain ⟨hh,h2,h⟩:=au h
  obtain ⟨l,h3,h⟩:=au h
  rw [ez] at h1
  have hp:=h1.bg
  obtain ⟨A,cap,b,off,sz,vs,hv,hc,_⟩:=hp.bg
  rw [hv] at hp
  rcases iP hmx with ⟨rfl,rfl⟩|⟨my,mz,rfl,rfl,hmz⟩
  ·simp only at h
   obtain ⟨⟨c1,c2,c3,c4⟩,h⟩:=aP h
   injection h with h; subst h
   have hb:=pQ (P:=P) he hlo hhi (cap:=cap) h2 h3 c1 c2 c3 c4 hc true
   refine ⟨_,w,.inl ?_,.still hr (.plain (hp.part (m:=cap) (l:=l.toNat) (h:=hh.toNat) hw (by omega) (by omega) (by omega)))⟩
   simp [execOp,hop,Instr.sliceAt,bf ht,Instr.slice,hv,hb,cY hn]
  ·simp only at h
   split at h
   ·rename_i mk m em
    obtain ⟨⟨c0,c0',c1,c2,c3,c4⟩,h⟩:=aP h
    have hm:=aN he hmz
    rw [em] at hm
    have hmr:(Instr.sliceBound (a.eval my) cap .slice3Acap).run P w = .ok m.toNat w:=by
     simp [Instr.sliceBound,hm.bH,asIntOf,c0,show m<=cap by omega]
    have hbs:(Instr.sliceBounds true xs.length cap (lo.map a.eval) (hi.map a.eval) (some (a.eval my))).run P w = .ok (l.toNat,hh.toNat,m.toNat) w:=by
     unfold Instr.sliceBounds
     rcases iP hhi with ⟨rfl,rfl⟩|⟨hy,hz',rfl,rfl,hhz⟩
     ·simp at hmh
     ·have t1:=iB (P:=P) he hhz h2 c1 (m:=m.toNat) (by omega) .slice3B
      rcases iP hlo with ⟨rfl,rfl⟩|⟨y',z',rfl,rfl,hz'⟩
      ·simp [bO] at h3; subst h3
       simp [hmr,t1]
      ·have t2:=iB (P:=P) he hz' h3 c3 (m:=hh.toNat) (by omega) .slice3C
       simp [hmr,t1,t2]
    have hrun:(execOp a.eval o).run P w = .ok (.value (.slice (if m.toNat=l.toNat then A else A.map (·.add (l.toNat*n))) (hh.toNat-l.toNat) (m.toNat-l.toNat))) w:=by
     simp [execOp,hop,Instr.sliceAt,bf ht,Instr.slice,hv,hbs,cY hn]
    rcases dw h with ⟨hm0,h⟩|⟨hm0,h⟩<;>(injection h with h; subst h)
    ·have hm0:m=0:=by simpa using hm0
     subst hm0
     have e1:hh=0:=by omega
     have e2:l=0:=by omega
     subst e1; subst e2
     exact ⟨_,w,.inl hrun,.still hr (.c0 _)⟩
    ·exact ⟨_,w,.inl hrun,.still hr (.plain (hp.part (m:=m.toNat) hw (by omega) (by omega) (by omega)))⟩
   ·cases h
 ·rename_i id v0 sz' al ah ez
  obtain ⟨hsz,h⟩:=aP h
  subst hsz
  obtain ⟨hh,h2,h⟩:=au h
  obtain ⟨l,h3,h⟩:=au h
  rw [ez] at h1
  obtain ⟨hs0,g1,g2,g3⟩:=h1.gm
  obtain ⟨A,cap,hv,hc,hA⟩:∃A cap,a.eval y = .slice A (ah-al) cap/\ah-al<=cap/\(0<ah-al->∃b off,A=some ⟨b,off,none⟩):=by
   rcases hs0 with ⟨b,off,c,e,e'⟩|⟨e,A,e'⟩
   ·exact ⟨_,c,e,e',fun _=>⟨b,off,rfl⟩⟩
   ·exact ⟨A,0,by rw [e,e'],by omega,fun h=>by omega⟩
  have key:∀m:Nat,m<=cap->0<=l->l<hh->hh<=m->hh<=(ah-al:Nat)->bQ j M w (.aZ id v0 sz' (al+l.toNat) (al+hh.toNat)) (.slice (A.map (·.add (l.toNat*sz'))) (hh.toNat-l.toNat) (m-l.toNat)):=by
   intro m hmc hl0 hlh hhm hha
   obtain ⟨b,off,rfl⟩:=hA (by clear g3 g2 h1 hv; omega)
   simp only [Option.map_some,eV]
   have e0:al+hh.toNat-(al+l.toNat)=hh.toNat-l.toNat:=by clear g3 g2 h1 hv; omega
   have e6:hh.toNat-l.toNat<=m-l.toNat:=by clear g3 g2 h1 hv; omega
   have e7:al+l.toNat+(m-l.toNat)<=al+cap:=by clear g3 g2 h1 hv; omega
   have e8:al+l.toNat<=al+hh.toNat:=by clear g3 g2 h1 hv; omega
   have e9:al+hh.toNat<=ah:=by clear g3 g2 h1 hv; omega
   refine .aZ (.inl ⟨b,off+l.toNat*sz',m-l.toNat,by rw [e0],by rw [e0]; exact e6⟩) g1 g2 fun sz v' xs hM=>?_
   obtain ⟨k1,k2⟩:=g3 sz v' xs hM
   refine ⟨k1,fun hev=>?_⟩
   obtain ⟨l0,l1,l2,⟨rfl,_⟩|⟨b',cap',vs,t',l3,l4,l5,l6,l7⟩⟩:=k2 hev
   ·simp at l2; omega
   rw [hv] at l4
   injection l4 with l4 l4' l4''
   injection l4 with l4; injection l4 with e1 e2 e3
   subst e1; subst e2; subst l4''
   exact ⟨l0,e8,Nat.le_trans e9 l2,.inr ⟨b,m-l.toNat,vs,t',l3,by rw [e0,Nat.add_mul],by rw [e0]; exact e6,l6,Nat.le_trans (Nat.mul_le_mul_right _ e7) l7⟩⟩
  rcases iP hmx with ⟨rfl,rfl⟩|⟨my,mz,rfl,rfl,hmz⟩
  ·simp only at h
   obtain ⟨⟨c1,c2,c3,c4⟩,h⟩:=aP h
   have hb:=pQ (P:=P) he hlo hhi (cap:=cap) h2 h3 c1 c2 c3 c4 hc true
   have hrun:(execOp a.eval o).run P w = .ok (.value (.slice (if cap=l.toNat then A else A.map (·.add (l.toNat*sz'))) (hh.toNat-l.toNat) (cap-l.toNat))) w:=by
    simp [execOp,hop,Instr.sliceAt,bf ht,Instr.slice,hv,hb,cY hn]
   rcases dw h with ⟨hm0,h⟩|⟨hm0,h⟩<;>(injection h with h; subst h)
   ·have:l=hh:=by simpa using hm0
    subst this
    refine ⟨_,w,.inl hrun,.still hr (.plain ?_)⟩
    rw [Nat.sub_self]
    exact bF.nil _ _ _
   ·have:l≠hh:=by simpa using hm0
    rw [if_neg (by omega)] at hrun
    exact ⟨_,w,.inl hrun,.still hr (key cap (Nat.le_refl _) c3 (by omega) (by omega) c2)⟩
  ·simp only at h
   split at h
   ·rename_i mk m em
    obtain ⟨⟨c0,c0',c1,c2,c3,c4⟩,h⟩:=aP h
    have hm:=aN he hmz
    rw [em] at hm
    have hmr:(Instr.sliceBound (a.eval my) cap .slice3Acap).run P w = .ok m.toNat w:=by
     simp [Instr.sliceBound,hm.bH,asIntOf,c0,show m<=cap by omega]
    have hbs:(Instr.sliceBounds true (ah-al) cap (lo.map a.eval) (hi.map a.eval) (some (a.eval my))).run P w = .ok (l.toNat,hh.toNat,m.toNat) w:=by
     unfold Instr.sliceBounds
     rcases iP hhi with ⟨rfl,rfl⟩|⟨hy,hz',rfl,rfl,hhz⟩
     ·simp at hmh
     ·have t1:=iB (P:=P) he hhz h2 c1 (m:=m.toNat) (by omega) .slice3B
      rcases iP hlo with ⟨rfl,rfl⟩|⟨y',z',rfl,rfl,hz'⟩
      ·simp [bO] at h3; subst h3
       simp [hmr,t1]
      ·have t2:=iB (P:=P) he hz' h3 c3 (m:=hh.toNat) (by omega) .slice3C
       simp [hmr,t1,t2]
    have hrun:(execOp a.eval o).run P w = .ok (.value (.slice (if m.toNat=l.toNat then A else A.map (·.add (l.toNat*sz'))) (hh.toNat-l.toNat) (m.toNat-l.toNat))) w:=by
     simp [execOp,hop,Instr.sliceAt,bf ht,Instr.slice,hv,hbs,cY hn]
    rcases dw h with ⟨hm0,h⟩|⟨hm0,h⟩
    ·injection h with h; subst h
     have hm0:m=0:=by simpa using hm0
     subst hm0
     have e1:hh=0:=by omega
     have e2:l=0:=by omega
     subst e1; subst e2
     exact ⟨_,w,.inl hrun,.still hr (.c0 _)⟩
    ·rcases dw h with ⟨hm1,h⟩|⟨hm1,h⟩<;>(injection h with h; subst h)
     ·have:l=hh:=by simpa using hm1
      subst this
      refine ⟨_,w,.inl hrun,.still hr (.plain ?_)⟩
      rw [Nat.sub_self]
      exact bF.nil _ _ _
     ·have:l≠hh:=by simpa using hm1
      rw [if_neg (by omega)] at hrun
      exact ⟨_,w,.inl hrun,.still hr (key m.toNat (by omega) c3 (by omega) (by omega) (by omega))⟩
   ·cases h
 ·cases h
def K5 (hr:Rel j M w) (he:aL j M w env a) {y i:Operand} {z z':cj} {t e:TypeId} {n:Nat} (hop:o.op = .indexAddr t y i) (ht:P.underlying t=some (.slice e)) (hn:hZ P e=some n)
  (hz:bo y=some z) (hz':bo i=some z') (h:bd C env M (.mq n z z')=some x):∃v w',im P o a w v w'/\cG j M w x v w':=by
 simp only [bd] at h
 have h1:=aN he hz
 have h2:=aN he hz'
 split at h
 ·rename_i tk xs k m ez ez'
  obtain ⟨h0,h⟩:=aP h
  obtain ⟨el,hel,h⟩:=au h
  split at h
  ·rename_i hwd
   injection h with h; subst h
   rw [ez] at h1
   rw [ez'] at h2
   obtain ⟨A,cap,b,off,sz,vs,hv,hc,ha,hsz,hs,hrp⟩:=h1.bg.bg
   have hlt:=aj hel
   have hne:xs≠[]:=by rintro rfl; simp at hlt
   have hA:=ha hne
   have hsz':sz=n:=by rw [<-hwd]; exact (hsz el (List.mem_of_getElem? hel)).symm
   subst hsz'
   subst hA
   refine ⟨.pointer (some ⟨b,off+m.toNat*sz,none⟩),w,.inl ?_,.still hr (.cW (vs:=fun q=>vs (m.toNat*sz+q)) fun q c hq=>?_)⟩
   ·have hm:m<xs.length:=by omega
    simp [execOp,hop,Instr.indexAt,bf ht,hv,h2.bH,asIntOf,h0,hm,cY hn,eV]
   ·have h3:=hs _ el q c hel hq
    have h4:=hrp _ el q c hel hq
    rw [Nat.add_assoc]
    exact ⟨h3.1,h3.2,h4⟩
  ·cases h
 ·rename_i id v0 sz' lo hi k m ez ez'
  obtain ⟨⟨h0,hm,hsz⟩,h⟩:=aP h
  injection h with h; subst h
  subst hsz
  rw [ez] at h1
  rw [ez'] at h2
  have hlt0:lo+m.toNat<hi:=by omega
  obtain ⟨b,off,cap,hv,hcap⟩:=h1.Ms (by omega)
  obtain ⟨_,g1,g2,g3⟩:=h1.gm
  refine ⟨.pointer (some ⟨b,off+m.toNat*sz',none⟩),w,.inl ?_,.still hr (.cV ⟨_,_,rfl⟩ g1 g2 fun sz v' xs hM=>?_)⟩
  ·simp [execOp,hop,Instr.indexAt,bf ht,hv,h2.bH,asIntOf,h0,hm,cY hn,eV]
  ·obtain ⟨k1,k2⟩:=g3 sz v' xs hM
   refine ⟨k1,fun he=>?_⟩
   obtain ⟨rfl,l1,l2,⟨rfl,_⟩|⟨b',cap',vs,t',l3,l4,l5,l6,l7⟩⟩:=k2 he
   ·exact absurd (Nat.lt_of_lt_of_le hlt0 l2) (by simp)
   rw [hv] at l4
   injection l4 with l4; injection l4 with l4; injection l4 with e1 e2 e3
   subst e1; subst e2
   have hlt:lo+m.toNat<xs.length:=Nat.lt_of_lt_of_le hlt0 l2
   exact ⟨hlt,_,l3,by rw [Nat.add_mul]; simp⟩
 ·cases h
def yA (b off:Nat) (u:Nat->Value):∀(n i:Nat) (acc:Array Value),(∀k,k<n->w.cell? ⟨b,off+(i+k),none⟩=some (u (i+k))) ->
  (loadCellsFrom ⟨b,off,none⟩ i n acc).run P w = .ok (acc++((List.range n).map fun k=>u (i+k)).toArray) w:=by
 intro n
 induction n with
 |zero=>intro i acc _; simp [loadCellsFrom]
 |succ n ih =>
  intro i acc h
  have h0:=h 0 (by omega)
  simp only [Nat.add_zero] at h0
  have hi:=ih (i+1) (acc.push (u i)) fun k hk=>by
   have:=h (k+1) (by omega)
   rw [show i+(k+1)=i+1+k by omega] at this
   exact this
  simp only [loadCellsFrom,Sem.run_bind,eV,run_load,h0,Result.andThen_ok,hi]
  congr 1
  apply Array.ext'
  simp [List.range_succ_eq_map,Function.comp_def,Nat.add_comm,Nat.add_left_comm]
def ij (b off n:Nat) (u:Nat->Value) (h:∀k,k<n->w.cell? ⟨b,off+k,none⟩=some (u k)) :
  (loadCells ⟨b,off,none⟩ n).run P w = .ok (((List.range n).map u).toArray) w:=by
 have:=yA (P:=P) (w:=w) b off u n 0 #[] (by simpa using h)
 simpa [loadCells] using this
def nQ {id b:Nat} {cs:List ae} (hr:Rel j M w) (hM:M[id]?=some (.cells cs)) (hj:j id=some b):∃vs t,w.heap[b]?=some (.cells vs t (0,0))/\cs.length=vs.size /\
  (∀(q:Nat) (c:ae) (v:Value),cs[q]?=some c->vs[q]?=some v->bQ j M w c v)/\∀q,w.cell? ⟨b,q,none⟩=vs[q]?:=by
 obtain ⟨b',vs,t,h1,h2,h3,h4⟩:=hr.box id cs hM
 rw [hj] at h1; injection h1 with h1; subst h1
 exact ⟨vs,t,h2,h3,h4,fun q=>by simp [World.cell?,h2]⟩
def zq (hr:Rel j M w) {id ver i off sz:Nat} {xs:List ae} {v:Value} {el:ae} (hM:M[id]?=some (.arr sz ver xs)) (h:bQ j M w (.cV id ver i off) v) (hel:xs[i]?=some el) :
  ∃b,v = .pointer (some ⟨b,i*sz+off,none⟩)/\∀(k:Nat) (c:ae),el.cells[off+k]?=some c->∃u,w.cell? ⟨b,i*sz+off+k,none⟩=some u/\bF w (fJ j M w) c u:=by
 obtain ⟨_,_,_,g⟩:=h.jQ
 obtain ⟨g1,b,g2,g3⟩:=(g sz ver xs hM).2 rfl
 obtain ⟨b',vs,t,k1,k2,k3,k4,k5⟩:=hr.qw hM g2
 rw [g2] at k1; injection k1 with k1; subst k1
 refine ⟨b,g3,fun k c hc=>?_⟩
 obtain ⟨u,l1,l2⟩:=k5 i el (off+k) c hel hc
 exact ⟨u,by simp [World.cell?,k2,Nat.add_assoc,l1],l2⟩
def K8 (hr:Rel j M w) (he:aL j M w env a) {y:Operand} {z:cj} {t:TypeId} (hop:o.op = .load t y) (hg:qu P t=some false) (hz:bo y=some z) (h:bd C env M (.cB z)=some x) :
  ∃v w',im P o a w v w'/\cG j M w x v w':=by
 simp only [bd] at h
 have h1:=aN he hz
 split at h
 ·rename_i id off e
  rw [e] at h1
  obtain ⟨b,_,_,hj,hv⟩:=h1.gW
  rw [bE] at h
  split at h
  ·rename_i cs hM
   obtain ⟨c,hc,h⟩:=au h
   injection h with h; subst h
   rw [bE] at hc
   obtain ⟨vs,t0,hw,hl,hcs,hcell⟩:=nQ hr hM hj
   have hlt:=aj hc
   have hu:vs[off]?=some (vs[off]'(by omega)):=Array.getElem?_eq_getElem (by omega)
   refine ⟨_,w,.inl ?_,.still hr (hcs _ c _ hc hu)⟩
   simp [execOp,hop,Instr.loadAt,Instr.sureAddr,hv,loadVar,dZ hg,hcell,hu]
  ·cases h
 ·rename_i cs e
  rw [e] at h1
  obtain ⟨b,off,vs,hv,hc⟩:=h1.kY
  obtain ⟨c,hc0,h⟩:=au h
  injection h with h; subst h
  rw [bE] at hc0
  obtain ⟨h2,_,h3⟩:=hc 0 c hc0
  simp only [Nat.add_zero] at h2
  refine ⟨_,w,.inl ?_,.still hr (.plain h3)⟩
  simp [execOp,hop,Instr.loadAt,Instr.sureAddr,hv,loadVar,dZ hg,h2]
 ·rename_i id ver i off e
  rw [e] at h1
  rw [bE] at h
  split at h
  ·rename_i sz v0 xs hM
   split at h
   ·rename_i hv0
    subst hv0
    obtain ⟨el,hel,h⟩:=au h
    obtain ⟨c,hc,h⟩:=au h
    injection h with h; subst h
    rw [bE] at hc
    obtain ⟨b,hv,hcell⟩:=zq hr hM h1 hel
    obtain ⟨u,l1,l2⟩:=hcell 0 c (by simpa using hc)
    simp only [Nat.add_zero] at l1
    refine ⟨u,w,.inl ?_,.still hr (.plain l2)⟩
    simp [execOp,hop,Instr.loadAt,Instr.sureAddr,hv,loadVar,dZ hg,l1]
   ·cases h
  ·cases h
 ·cases h
def K9 (hr:Rel j M w) (he:aL j M w env a) {y:Operand} {z:cj} {t:TypeId} {n:Nat} (hop:o.op = .load t y) (hg:qu P t=some true) (hn:hZ P t=some n) (hz:bo y=some z)
  (h:bd C env M (.eG n z)=some x):∃v w',im P o a w v w'/\cG j M w x v w':=by
 simp only [bd] at h
 have h1:=aN he hz
 split at h
 ·rename_i id off e
  rw [e] at h1
  obtain ⟨b,_,_,hj,hv⟩:=h1.gW
  rw [bE] at h
  split at h
  ·rename_i cs hM
   split at h
   ·rename_i hle
    injection h with h; subst h
    obtain ⟨vs,t0,hw,hl,hcs,hcell⟩:=nQ hr hM hj
    have hrun:=ij (P:=P) (w:=w) b off n (fun k=>(vs[off+k]?).getD undef) fun k hk=>by
     rw [hcell,Array.getElem?_eq_getElem (by omega)]; simp
    refine ⟨_,w,.inl (by simp [execOp,hop,Instr.loadAt,Instr.sureAddr,hv,loadVar,dZ hg,cY hn,hrun]; rfl),.still hr (.agg (by simp; omega) fun p c u hc hu=>?_)⟩
    have hp:p<n:=by have:=aj hc; simp at this; omega
    rw [List.getElem?_take_of_lt hp,List.getElem?_drop] at hc
    have hu':u=(vs[off+p]?).getD undef:=by simp [hp] at hu; exact hu.symm
    have hs:vs[off+p]?=some (vs[off+p]'(by omega)):=Array.getElem?_eq_getElem (by omega)
    rw [hs] at hu'
    subst hu'
    exact hcs _ c _ hc hs
   ·cases h
  ·cases h
 ·rename_i cs e
  split at h
  ·rename_i hle
   injection h with h; subst h
   rw [e] at h1
   obtain ⟨b,off,vs,hv,hc⟩:=h1.kY
   have hrun:=ij (P:=P) (w:=w) b off n vs fun k hk=>(hc k _ (List.getElem?_eq_getElem (by omega))).1
   refine ⟨_,w,.inl (by simp [execOp,hop,Instr.loadAt,Instr.sureAddr,hv,loadVar,dZ hg,cY hn,hrun]; rfl),.still hr (.agg (by simp; omega) fun p c u hc' hu=>?_)⟩
   have hp:p<n:=by have:=aj hc'; simp at this; omega
   rw [List.getElem?_take_of_lt hp] at hc'
   have hu':u=vs p:=by simp [hp] at hu; exact hu.symm
   subst hu'
   exact .plain (hc p c hc').2.2
  ·cases h
 ·rename_i id ver i off e
  rw [e] at h1
  rw [bE] at h
  split at h
  ·rename_i sz v0 xs hM
   split at h
   ·rename_i hv0
    subst hv0
    obtain ⟨el,hel,h⟩:=au h
    split at h
    ·rename_i hle
     injection h with h; subst h
     obtain ⟨b,hv,hcell⟩:=zq hr hM h1 hel
     have hrun:=ij (P:=P) (w:=w) b (i*sz+off) n (fun k=>(w.cell? ⟨b,i*sz+off+k,none⟩).getD undef) fun k hk=>by
      obtain ⟨u,l1,_⟩:=hcell k _ (List.getElem?_eq_getElem (by omega))
      rw [l1]; rfl
     refine ⟨_,w,.inl (by simp [execOp,hop,Instr.loadAt,Instr.sureAddr,hv,loadVar,dZ hg,cY hn,hrun]; rfl),.still hr (.agg (by simp; omega) fun p c u hc' hu=>?_)⟩
     have hp:p<n:=by have:=aj hc'; simp at this; omega
     rw [List.getElem?_take_of_lt hp,List.getElem?_drop] at hc'
     obtain ⟨u',l1,l2⟩:=hcell p c hc'
     have hu':u=(w.cell? ⟨b,i*sz+off+p,none⟩).getD undef:=by simp [hp] at hu; exact hu.symm
     rw [l1] at hu'
     subst hu'
     exact .plain l2
    ·cases h
   ·cases h
  ·cases h
 ·cases h
end
section
variable {P:Program} {C:bt} {o:Oper} {env:Env} {M:ag} {j:J} {w:World} {a:Act} {x:ae×ag}
def mc {y:ae} {v:Value} {cs:List ae} (h:bQ j M w y v) (hc:y.cells?=some cs):RC j M w cs v.cells:=by
 cases y<;>simp only [ae.cells?,Option.some.injEq,reduceCtorEq] at hc
 case agg cs' =>
  subst hc
  obtain ⟨vs,rfl,h1,h2⟩:=h.eK
  exact ⟨h1,h2⟩
 case raw u =>
  cases h with
  |plain h =>
   cases h with
   |raw _ h1 =>
    cases v<;>simp at hc<;>subst hc <;>
     exact ⟨rfl,fun i c v hc hv=>by
      cases i with
      |zero=>simp [Value.cells] at hc hv; subst hc; subst hv; exact .plain (.raw _ h1)
      |succ i=>simp at hc⟩
 all_goals
  subst hc
  have hv:v.cells = #[v]:=by
   first
    |(have:=h.df; subst this; rfl)
    |(have:=h.bH; subst this; rfl)
    |(have:=h.dx; subst this; rfl)
    |(obtain ⟨A,cap,b,off,sz,vs,e,_⟩:=h.bg.bg; subst e; rfl)
    |(obtain ⟨b,_,_,_,e⟩:=h.gW; subst e; rfl)
    |(obtain ⟨b,off,vs,e,_⟩:=h.kY; subst e; rfl)
    |(obtain ⟨vs,e,_⟩:=h.jR; subst e; rfl)
    |(obtain ⟨b,_,_,e⟩:=h.mB; subst e; rfl)
    |(obtain ⟨b,_,_,e⟩:=h.vm; subst e; rfl)
    |(obtain ⟨b,es,cl,e,_⟩:=h.zW; subst e; rfl)
    |(obtain ⟨_,_,e⟩:=h.qv; subst e; rfl)
    |(obtain ⟨⟨_,_,e⟩,_⟩:=h.jQ; subst e; rfl)
    |(obtain ⟨_,e,_⟩:=h.yC; subst e; rfl)
    |(obtain ⟨_,_,_,_,e|e⟩:=h.wH<;>(subst e; rfl))
    |(obtain ⟨_,_,_,h3,_⟩:=h.vE; cases h3; rfl)
    |(obtain ⟨_,_,_,e⟩:=h.Au; subst e; rfl)
  rw [hv]
  exact ⟨rfl,fun i c u hc hu=>by
   cases i with
   |zero=>simp at hc hu; subst hc; subst hu; exact h
   |succ i=>simp at hc⟩
def uR {c:ae} {v:Value} (h:bQ j M w c v) (hc:c.c8=true):v.oneCell'=true:=by
 cases c<;>simp only [ae.c8,reduceCtorEq,Bool.false_eq_true] at hc
 case bool=>have:=h.df; subst this; rfl
 case int=>have:=h.bH; subst this; rfl
 case str=>have:=h.dx; subst this; rfl
 case slice=>obtain ⟨A,cap,b,off,sz,vs,e,_⟩:=h.bg.bg; subst e; rfl
 case ptr=>obtain ⟨b,_,_,_,e⟩:=h.gW; subst e; rfl
 case cW=>obtain ⟨b,off,vs,e,_⟩:=h.kY; subst e; rfl
 case func=>obtain ⟨vs,e,_⟩:=h.jR; subst e; rfl
 case cz=>obtain ⟨b,_,_,e⟩:=h.mB; subst e; rfl
 case dp=>obtain ⟨b,_,_,e⟩:=h.vm; subst e; rfl
 case du=>obtain ⟨b,es,cl,e,_⟩:=h.zW; subst e; rfl
 case aZ=>obtain ⟨_,_,e⟩:=h.qv; subst e; rfl
 case cV=>obtain ⟨⟨_,_,e⟩,_⟩:=h.jQ; subst e; rfl
 case iA=>obtain ⟨_,e,_⟩:=h.yC; subst e; rfl
 case bI=>obtain ⟨_,_,_,_,e|e⟩:=h.wH<;>(subst e; rfl)
 case cA=>obtain ⟨_,_,_,h3,_⟩:=h.vE; cases h3; rfl
 case dI=>obtain ⟨_,_,_,e⟩:=h.Au; subst e; rfl
 case raw u =>
  cases h with
  |plain h=>cases h with|raw _ h1=>exact h1
def yE (hr:Rel j M w) {cs:List ae} {vs:Array Value} (hc:RC j M w cs vs) (t:TypeId) :
  cG j M w (.ptr M.length 0,M++[.cells cs]) (.pointer (some ⟨w.heap.size,0,none⟩)) { w with heap:=w.heap.push (.cells vs t (0,0)) }:=by
 have q:Quiet w { w with heap:=w.heap.push (.cells vs t (0,0)) }:=⟨by simp,rfl,rfl,rfl⟩
 have hb:∀b,b<w.heap.size->({ w with heap:=w.heap.push (.cells vs t (0,0)) }:World).heap[b]?=w.heap[b]?:=fun b hb=>by
  show (w.heap.push _)[b]?=_
  rw [Array.getElem?_push,if_neg (by omega)]
 have hn:({ w with heap:=w.heap.push (.cells vs t (0,0)) }:World).heap[w.heap.size]?=some (.cells vs t (0,0)):=by simp
 refine ⟨bX j M.length (some w.heap.size),hr.push (fun b h=>?_) q hb (fun _=>?_) (fun sz n b h=>by cases h),Ext.push (fun b h=>?_) q hb,.ptr (by simp) ⟨cs,by simp⟩ (by simp [bX])⟩
 ·injection h with h; subst h; simp
 ·exact ⟨_,rfl,fun j' M' hx=>⟨vs,t,hn,hc.1,fun i c v h1 h2=>(hc.2 i c v h1 h2).mono hx⟩⟩
 ·injection h with h; omega
def KY (hr:Rel j M w) (he:aL j M w env a) {y:Operand} {z:cj} {t:TypeId} (hop:o.op = .box t y) (hz:bo y=some z) (h:bd C env M (.box z)=some x) :
  ∃v w',im P o a w v w'/\cG j M w x v w':=by
 simp only [bd] at h
 obtain ⟨cs,hc,h⟩:=au h
 injection h with h; subst h
 exact ⟨_,_,.inl (by simp [execOp,hop,Instr.box,newVar,newRow]),yE hr (mc (aN he hz) hc) t⟩
def DT (hr:Rel j M w) {t:TypeId} {i:TypeInfo} {zv:Value} {l:List ae} (hop:o.op = .alloc t) (hi:P.info? t=some i) (hzv:i.zero=some zv) (hl:jL zv.cells.toList=some l)
  (h:bd C env M (.ib l)=some x):∃v w',im P o a w v w'/\cG j M w x v w':=by
 simp only [bd] at h
 injection h with h; subst h
 obtain ⟨h1,h2⟩:=gJ (j:=j) (M:=M) (w:=w) hl
 refine ⟨_,_,.inl (by simp [execOp,hop,Instr.alloc,zeroValue,gu hi,hzv,newVar,newRow]; rfl),yE hr ⟨by simpa using h1,fun i c v hc hv=>h2 i c v hc (by simpa using hv)⟩ t⟩
def S3 (hr:Rel j M w) (he:aL j M w env a) {y:Operand} {n:Nat} (hop:o.op = .assign y) (hz:bo y=some (.dX (.slice .c0 []))) (h:bd C env M (.own n (.dX (.slice .c0 [])))=some x) :
  ∃v w',im P o a w v w'/\cG j M w x v w':=by
 simp only [bd,cj.ev] at h
 injection h with h; subst h
 have h1:=aN he hz
 have q:Quiet w w:=⟨Nat.le_refl _,rfl,rfl,rfl⟩
 obtain ⟨A,hA⟩:∃A,a.eval y = .slice A 0 0:=by
  simp only [cj.ev] at h1
  generalize a.eval y=v at h1
  cases h1 with
  |plain h=>cases h
  |c0 A=>exact ⟨A,rfl⟩
 refine ⟨a.eval y,w,.inl (by simp [execOp,hop]),bX j M.length none,hr.push (ob:=none) (fun b h=>by cases h) q (fun _ _=>rfl) (fun h=>by cases h) (fun sz n b h h'=>by cases h'),Ext.push (fun b h=>by cases h) q (fun _ _=>rfl),?_⟩
 rw [hA]
 exact .own (sz:=n) (n:=0) (by simp) (by simp) (bF.nil _ _ _) fun _ => .inl ⟨by simp [bX],rfl,A,rfl⟩
def gF (w:World) (b:Nat):Nat->List Value->World
 |_,[]=>w
 |off,v::r=>gF (w.setCell ⟨b,off,none⟩ v) b (off+1) r
def eT {b:Nat} {t:TypeId}:∀(l:List Value) (w:World) (off:Nat) (vs:Array Value),w.heap[b]?=some (.cells vs t (0,0))->off+l.length<=vs.size ->
  (gF w b off l).heap.size=w.heap.size/\(gF w b off l).os=w.os/\(gF w b off l).tape=w.tape/\(gF w b off l).output=w.output /\
  (∀b',b'≠b->(gF w b off l).heap[b']?=w.heap[b']?) /\
  ∃vs',(gF w b off l).heap[b]?=some (.cells vs' t (0,0))/\vs'.size=vs.size/\(∀p,p<off\/off+l.length<=p->vs'[p]?=vs[p]?)/\∀p,p<l.length->vs'[off+p]?=l[p]?:=by
 intro l
 induction l with
 |nil=>intro w off vs h _; exact ⟨rfl,rfl,rfl,rfl,fun _ _=>rfl,vs,h,rfl,fun _ _=>rfl,fun p hp=>by simp at hp⟩
 |cons v r ih =>
  intro w off vs h hle
  simp only [List.length_cons] at hle
  have hs:(w.setCell ⟨b,off,none⟩ v).heap[b]?=some (.cells (vs.setIfInBounds off v) t (0,0)):=by
   simp [World.setCell,Array.getElem?_modify,h]
  obtain ⟨h1,h2,h3,h4,h5,vs',h6,h7,h8,h9⟩:=ih (w.setCell ⟨b,off,none⟩ v) (off+1) (vs.setIfInBounds off v) hs (by simp; omega)
  refine ⟨by simp only [gF]; rw [h1]; simp [World.setCell],by simp only [gF]; rw [h2]; rfl,by simp only [gF]; rw [h3]; rfl,by simp only [gF]; rw [h4]; rfl,fun b' hb'=>?_,vs',h6,by rw [h7]; simp,fun p hp=>?_,fun p hp=>?_⟩
  ·simp only [gF]
   rw [h5 b' hb']
   simp [World.setCell,Array.getElem?_modify,Ne.symm hb']
  ·simp only [List.length_cons] at hp
   rw [h8 p (by omega),Array.getElem?_setIfInBounds_ne (by omega)]
  ·cases p with
   |zero =>
    have:vs'[off]?=(vs.setIfInBounds off v)[off]?:=h8 off (by omega)
    rw [Nat.add_zero,this]
    simp [Array.getElem?_setIfInBounds_self]
    omega
   |succ p =>
    have:=h9 p (by simpa using hp)
    rw [show off+(p+1)=off+1+p by omega,this]
    simp
def fG {b:Nat} {t:TypeId}:∀(l:List Value) (w:World) (off i:Nat) (vs:Array Value),w.heap[b]?=some (.cells vs t (0,0))->off+i+l.length<=vs.size->(∀v,v∈l->v.oneCell'=true) ->
  (storeCells ⟨b,off,none⟩ l i).run P w = .ok () (gF w b (off+i) l):=by
 intro l
 induction l with
 |nil=>intro w off i vs _ _ _; simp [storeCells,gF]
 |cons v r ih =>
  intro w off i vs h hle hv
  simp only [List.length_cons] at hle
  have hs:(w.setCell ⟨b,off+i,none⟩ v).heap[b]?=some (.cells (vs.setIfInBounds (off+i) v) t (0,0)):=by
   simp [World.setCell,Array.getElem?_modify,h]
  have hc:w.cell? ⟨b,off+i,none⟩=some (vs[off+i]'(by omega)):=by
   simp [World.cell?,h]
  have hf:w.frozen? ⟨b,off+i,none⟩=false:=by simp [World.frozen?,h]
  have hi:=ih (w.setCell ⟨b,off+i,none⟩ v) off (i+1) (vs.setIfInBounds (off+i) v) hs (by simp; omega) (fun u hu=>hv u (List.mem_cons_of_mem _ hu))
  simp only [storeCells,Sem.run_bind,eV,run_store P w _ v .plain (hv v (by simp)),hc,hf,Bool.false_eq_true,if_false,Result.andThen_ok,hi,gF]
  congr 2
def iI {cs new:List ae} {off:Nat} (h:off+new.length<=cs.length) (p:Nat) :
  (fD cs off new)[p]?=if off<=p/\p<off+new.length then new[p-off]? else cs[p]?:=by
 unfold fD
 have hl:(cs.take off).length=off:=by simp; omega
 by_cases h1:p<off
 ·rw [List.getElem?_append_left (by omega),List.getElem?_take_of_lt h1,if_neg (by omega)]
 ·rw [List.getElem?_append_right (by omega),hl]
  by_cases h2:p<off+new.length
  ·rw [List.getElem?_append_left (by omega),if_pos ⟨by omega,h2⟩]
  ·rw [List.getElem?_append_right (by omega),List.getElem?_drop,if_neg (by omega)]
   congr 1
   omega
def lK {cs new:List ae} {off:Nat} (h:off+new.length<=cs.length):(fD cs off new).length=cs.length:=by
 unfold fD; simp; omega
def rI {c:ae} {v:Value} (h:bQ j M w c v) (hp:c.shut.plainCell=true):bF w (fJ j M w) c.shut v:=by
 cases c<;>simp only [ae.shut,ae.plainCell,Bool.false_eq_true] at hp ⊢
 case bool=>have:=h.df; subst this; exact .bool _
 case int=>have:=h.bH; subst this; exact .int _ _
 case str=>have:=h.dx; subst this; exact .str _
 case slice=>exact h.bg
 case raw=>cases h with|plain h=>exact h
def tU {c:ae} (h:c.shut.plainCell=true):c.c8=true:=by
 cases c<;>simp only [ae.shut,ae.plainCell,Bool.false_eq_true] at h<;>try rfl
 rename_i v
 cases v<;>first|rfl|(simp at h)
def yM {c:ae} (h:c.plainCell=true):c.cells=[c]:=by
 cases c<;>first|rfl|cases h
def vP {e:ae} {off:Nat} {new:List ae} (h:off+new.length<=e.cells.length) (hp:new.all ae.plainCell=true):(putCells e off new).cells=fD e.cells off new:=by
 by_cases hag:∃cs,e = .agg cs
 ·obtain ⟨cs,rfl⟩:=hag
  cases new<;>rfl
 ·have h1:e.cells=[e]:=by cases e<;>first|rfl|exact absurd ⟨_,rfl⟩ hag
  rw [h1] at h ⊢
  match new,h,hp with
  | [],h,_ =>
   have:putCells e off []=e:=by cases e<;>first|rfl|exact absurd ⟨_,rfl⟩ hag
   rw [this,h1]
   simp only [List.length_nil,List.length_cons] at h
   match off,h with
   |0,_=>rfl
   |1,_=>rfl
  | [c],h,hp =>
   have:putCells e off [c]=c:=by cases e<;>first|rfl|exact absurd ⟨_,rfl⟩ hag
   have h0:off=0:=by simp at h; omega
   subst h0
   rw [this,yM (by simpa using hp)]
   rfl
  |_::_::_,h,_=>simp at h; omega
def vH (hr:Rel j M w) (he:aL j M w env a) {y y':Operand} {z z':cj} {t:TypeId} {n:Nat} (hop:o.op = .store t y y') (hn:hZ P t=some n) (hz:bo y=some z) (hz':bo y'=some z')
  (h:bd C env M (.store n z z')=some x):∃v w',im P o a w v w'/\cG j M w x v w':=by
 simp only [bd] at h
 have h1:=aN he hz
 have h2:=aN he hz'
 split at h
 ·rename_i id off e
  rw [e] at h1
  obtain ⟨b,_,_,hj,hv⟩:=h1.gW
  rw [bE] at h
  split at h
  ·rename_i cs hM
   obtain ⟨new,dH,h⟩:=au h
   split at h
   ·rename_i hcond
    obtain ⟨c1,c2,c3⟩:=hcond
    injection h with h; subst h
    obtain ⟨vs,t0,hw,hl,hcs,hcell⟩:=nQ hr hM hj
    obtain ⟨n1,n2⟩:=mc h2 dH
    have hone:∀v,v∈(a.eval y').cells.toList->v.oneCell'=true:=by
     intro v hv
     obtain ⟨p,hp,rfl⟩:=List.getElem_of_mem hv
     have hp':p<(a.eval y').cells.size:=by simpa using hp
     have hpl:p<new.length:=by omega
     have hr':=n2 p _ _ (List.getElem?_eq_getElem hpl) (Array.getElem?_eq_getElem hp')
     have:=uR hr' (List.all_eq_true.1 c3 _ (List.getElem_mem hpl))
     simpa using this
    have hrun:=fG (P:=P) (a.eval y').cells.toList w off 0 vs hw (by simp; omega) hone
    obtain ⟨s1,s2,s3,s4,s5,vs',s6,s7,s8,s9⟩:=eT (a.eval y').cells.toList w off vs hw (by simp; omega)
    have q:Quiet w (gF w b off (a.eval y').cells.toList):=⟨by omega,s2,s3,s4⟩
    have hle:off+new.length<=cs.length:=by omega
    rw [cd]
    refine ⟨undef,gF w b off (a.eval y').cells.toList,.inr ⟨?_,rfl⟩,j,Rel.store hM rfl rfl hj hr q (fun b' hb' _=>s5 b' hb') (fun vs0 t1 fr h=>by rw [hw] at h; injection h with h; injection h with h1 h2 h3; subst h1; subst h2; exact ⟨_,_,s6,s7⟩) (fun j' M' hx=>⟨vs',t0,s6,by rw [lK hle]; omega,fun p c v hc hv'=>bQ.mono hx ?_⟩),Ext.store hM rfl rfl hj hr q (fun b' hb' _=>s5 b' hb') (fun vs0 t1 fr h=>by rw [hw] at h; injection h with h; injection h with h1 h2 h3; subst h1; subst h2; exact ⟨_,_,s6,s7⟩),.any _⟩
    ·simp only [Nat.add_zero] at hrun
     simp [execOp,hop,Instr.storeAt,Instr.sureAddr,hv,storeVar,cY hn,show (a.eval y').cells.size=n by omega,hrun]
    ·rw [iI hle] at hc
     split at hc
     ·rename_i hp
      have h9:=s9 (p-off) (by simp; omega)
      rw [show off+(p-off)=p by omega,hv'] at h9
      exact n2 (p-off) c v hc (by simpa using h9.symm)
     ·rename_i hp
      have h8:=s8 p (by simp; omega)
      rw [hv'] at h8
      exact hcs p c v hc h8.symm
   ·cases h
  ·cases h
 ·rename_i id ver i off e
  rw [e] at h1
  rw [bE] at h
  split at h
  ·rename_i sz v0 xs hM
   obtain ⟨new,dH,h⟩:=au h
   obtain ⟨el,hel,h⟩:=au h
   split at h
   ·rename_i hcond
    obtain ⟨hv0,c1,c2,c3⟩:=hcond
    subst hv0
    injection h with h; subst h
    obtain ⟨_,hid,_,hv⟩:=h1.jQ
    obtain ⟨hi,b,hj,hv⟩:=(hv sz v0 xs hM).2 rfl
    obtain ⟨b',vs,t0,k1,hw,k3,k4,k5⟩:=hr.qw hM hj
    rw [hj] at k1; injection k1 with k1; subst k1
    have hsz:el.cells.length=sz:=k4 el (List.mem_of_getElem? hel)
    have hbd:i*sz+sz<=vs.size:=by
     refine Nat.le_trans ?_ k3
     calc i*sz+sz=(i+1)*sz:=by rw [Nat.add_mul]; omega
      _<=xs.length*sz:=Nat.mul_le_mul_right _ hi
    obtain ⟨n1,n2⟩:=mc h2 dH
    have hpl:∀(p:Nat) (c:ae),new[p]?=some c->c.shut.plainCell=true:=fun p c hc=>by
     rw [List.all_map,List.all_eq_true] at c3
     exact c3 c (List.mem_of_getElem? hc)
    have hone:∀v,v∈(a.eval y').cells.toList->v.oneCell'=true:=by
     intro v hv
     obtain ⟨p,hp,rfl⟩:=List.getElem_of_mem hv
     have hp':p<(a.eval y').cells.size:=by simpa using hp
     have hpl':p<new.length:=by omega
     have hr':=n2 p _ _ (List.getElem?_eq_getElem hpl') (Array.getElem?_eq_getElem hp')
     have:=uR hr' (tU (hpl p _ (List.getElem?_eq_getElem hpl')))
     simpa using this
    have hrun:=fG (P:=P) (a.eval y').cells.toList w (i*sz+off) 0 vs hw (by simp; omega) hone
    obtain ⟨s1,s2,s3,s4,s5,vs',s6,s7,s8,s9⟩:=eT (a.eval y').cells.toList w (i*sz+off) vs hw (by simp; omega)
    have q:Quiet w (gF w b (i*sz+off) (a.eval y').cells.toList):=⟨by omega,s2,s3,s4⟩
    have hle:off+(new.map ae.shut).length<=el.cells.length:=by simp; omega
    have hput:=vP hle c3
    have hw':∀vs0 t1,w.heap[b]?=some (.cells vs0 t1 (0,0))->∃vs1,(gF w b (i*sz+off) (a.eval y').cells.toList).heap[b]?=some (.cells vs1 t1 (0,0))/\vs1.size=vs0.size:=fun vs0 t1 h=>by
     rw [hw] at h; injection h with h; injection h with e1 e2
     subst e1; subst e2
     exact ⟨vs',s6,s7⟩
    rw [cd,cd]
    refine ⟨undef,gF w b (i*sz+off) (a.eval y').cells.toList,.inr ⟨?_,rfl⟩,j,Rel.wE hM hj hr q (fun b' hb' _=>s5 b' hb') hw' (Nat.le_refl _) (fun _=>by simp) (fun j' M' hx=>⟨vs',t0,s6,by simp; omega,fun x hx'=>?_,fun p x k c hp hk=>?_⟩),Ext.wE hM hj hr q (fun b' hb' _=>s5 b' hb') hw' (Nat.le_refl _) (fun _=>by simp),.any _⟩
    ·simp only [Nat.add_zero] at hrun
     simp [execOp,hop,Instr.storeAt,Instr.sureAddr,hv,storeVar,cY hn,show (a.eval y').cells.size=n by omega,hrun]
    ·rcases List.mem_or_eq_of_mem_set hx' with hx'|rfl
     ·exact k4 x hx'
     ·rw [hput,lK hle,hsz]
    ·have hlen:(a.eval y').cells.toList.length=n:=by simp; omega
     by_cases hpi:i=p
     ·subst hpi
      rw [List.getElem?_set_self hi] at hp
      injection hp with hp; subst hp
      rw [hput,iI hle] at hk
      split at hk
      ·rename_i hin
       simp only [List.length_map] at hin
       rw [List.getElem?_map,Option.map_eq_some_iff] at hk
       obtain ⟨c0,hc0,rfl⟩:=hk
       have h9:=s9 (k-off) (by omega)
       rw [show i*sz+off+(k-off)=i*sz+k by omega] at h9
       have hlt:k-off<(a.eval y').cells.size:=by omega
       have hu:(a.eval y').cells[k-off]?=some (a.eval y').cells[k-off]:=Array.getElem?_eq_getElem hlt
       exact ⟨_,by rw [h9]; simp,(rI (n2 _ c0 _ hc0 hu) (hpl _ c0 hc0)).mono hx.cu⟩
      ·rename_i hin
       simp only [List.length_map] at hin
       obtain ⟨u,u1,u2⟩:=k5 i el k c hel hk
       exact ⟨u,by rw [s8 _ (by omega)]; exact u1,u2.mono hx.cu⟩
     ·rw [List.getElem?_set_ne hpi] at hp
      obtain ⟨u,u1,u2⟩:=k5 p x k c hp hk
      have hk':k<sz:=by rw [<-k4 x (List.mem_of_getElem? hp)]; exact aj hk
      refine ⟨u,(s8 _ ?_).trans u1,u2.mono hx.cu⟩
      rcases Nat.lt_or_ge p i with hlt|hge
      ·left
       have:=Nat.mul_le_mul_right sz (show p+1<=i from hlt)
       rw [Nat.add_mul] at this
       omega
      ·right
       have:=Nat.mul_le_mul_right sz (show i+1<=p by omega)
       rw [Nat.add_mul] at this
       omega
   ·cases h
  ·cases h
 ·cases h
end
def LM (off:Nat):∀(l:List Value) (k:Nat) (cells:Array Value),
  ((l.zipIdx k).foldl (fun (cs:Array Value) (x:Value×Nat)=>cs.setIfInBounds (off+x.2) x.1) cells).size=cells.size /\
  ∀p,((l.zipIdx k).foldl (fun (cs:Array Value) (x:Value×Nat)=>cs.setIfInBounds (off+x.2) x.1) cells)[p]? =
   if off+k<=p/\p<off+k+l.length/\p<cells.size then l[p-(off+k)]? else cells[p]?:=by
 intro l
 induction l with
 |nil=>intro k cells; exact ⟨rfl,fun p=>by simp; omega⟩
 |cons v r ih =>
  intro k cells
  rw [List.zipIdx_cons,List.foldl_cons]
  obtain ⟨h1,h2⟩:=ih (k+1) (cells.setIfInBounds (off+k) v)
  refine ⟨by rw [h1]; simp,fun p=>?_⟩
  rw [h2]
  simp only [Array.size_setIfInBounds,List.length_cons]
  by_cases c1:off+(k+1)<=p/\p<off+(k+1)+r.length/\p<cells.size
  ·rw [if_pos c1,if_pos (by omega),show p-(off+k)=(p-(off+(k+1)))+1 by omega]
   simp
  ·rw [if_neg c1]
   by_cases c2:p=off+k/\p<cells.size
   ·obtain ⟨rfl,hlt⟩:=c2
    rw [if_pos (by omega)]
    simp [Array.getElem?_setIfInBounds_self,hlt]
   ·rw [if_neg (by omega)]
    by_cases c3:p=off+k
    ·have:¬p<cells.size:=fun h=>c2 ⟨c3,h⟩
     rw [Array.getElem?_eq_none (by simp; omega),Array.getElem?_eq_none (by omega)]
    ·rw [Array.getElem?_setIfInBounds_ne (by omega)]
def putRow (cells:Array Value) (off:Nat) (vs:Array Value):Array Value:=vs.zipIdx.foldl (fun cs (c,k)=>cs.setIfInBounds (off+k) c) cells
def tQ (cells:Array Value) (off:Nat) (vs:Array Value):(putRow cells off vs).size=cells.size /\
  ∀p,(putRow cells off vs)[p]?=if off<=p/\p<off+vs.size/\p<cells.size then vs[p-off]? else cells[p]?:=by
 have h:=LM off vs.toList 0 cells
 have e:putRow cells off vs=(vs.toList.zipIdx 0).foldl (fun (cs:Array Value) (x:Value×Nat)=>cs.setIfInBounds (off+x.2) x.1) cells:=by
  unfold putRow
  rw [<-Array.foldl_toList]
  simp
 rw [e]
 exact ⟨h.1,fun p=>by rw [h.2 p]; simp⟩
section
variable {P:Program} {C:bt} {o:Oper} {env:Env} {M:ag} {j:J} {w:World} {a:Act} {x:ae×ag}
def RC.write {cs new:List ae} {cells vs:Array Value} {off:Nat} (h:RC j M w cs cells) (hn:RC j M w new vs) (hle:off+new.length<=cs.length):RC j M w (fD cs off new) (putRow cells off vs):=by
 obtain ⟨p1,p2⟩:=tQ cells off vs
 have h1:=h.1
 have h2:=hn.1
 refine ⟨by rw [lK hle,p1]; exact h1,fun i c v hc hv=>?_⟩
 rw [iI hle] at hc
 rw [p2] at hv
 have hi:i<cells.size:=by
  rcases Nat.lt_or_ge i cells.size with hi|hi
  ·exact hi
  ·rw [if_neg (by omega),Array.getElem?_eq_none hi] at hv; cases hv
 split at hc
 ·rename_i hp
  rw [if_pos (by omega)] at hv
  exact hn.2 _ c v hc hv
 ·rename_i hp
  rw [if_neg (by omega)] at hv
  exact h.2 _ c v hc hv
def KN {α β:Type} {g:α->Sem β} {f:α->β}:∀(l:List α),(∀x,x∈l->(g x).run P w = .ok (f x) w)->(l.mapM g).run P w = .ok (l.map f) w:=by
 intro l
 induction l with
 |nil=>intro _; simp
 |cons y r ih =>
  intro h
  simp [List.mapM_cons,h y (by simp),ih fun x hx=>h x (by simp [hx])]
def zR {fs:Array Field} (he:aL j M w env a) (hfs:∀f,f∈fs.toList->(P.info? f.type).isSome=true):∀ {parts:List (Nat×Operand)} {ps:List (Nat×Nat×cj)} {cs cs':List ae} {cells:Array Value},
  rY P fs parts=some ps->eP env cs ps=some cs'->RC j M w cs cells ->
  ∃cells',Instr.fill (fun i=>(fs.map fun f=>(f.offset,P.cellsOf f.type))[i]?) cells (parts.map fun p=>(p.1,a.eval p.2))=some cells'/\RC j M w cs' cells':=by
 intro parts
 induction parts with
 |nil =>
  intro ps cs cs' cells h1 h2 h3
  simp [rY] at h1; subst h1
  simp [eP] at h2; subst h2
  exact ⟨cells,rfl,h3⟩
 |cons p r ih =>
  intro ps cs cs' cells h1 h2 h3
  obtain ⟨i,y⟩:=p
  simp only [rY] at h1
  obtain ⟨f,hf,h1⟩:=an h1
  obtain ⟨n,hn,h1⟩:=an h1
  obtain ⟨z,hz,h1⟩:=an h1
  obtain ⟨l,hl,h1⟩:=an h1
  injection h1 with h1; subst h1
  simp only [eP] at h2
  obtain ⟨new,dH,h2⟩:=au h2
  split at h2
  ·rename_i hc
   obtain ⟨c1,c2⟩:=hc
   have hrc:=mc (aN he hz) dH
   obtain ⟨inf,hinf,hsz⟩:=vZ hn
   have hco:P.cellsOf f.type=n:=by simp [Program.cellsOf,hinf,hsz]
   obtain ⟨cells',e1,e2⟩:=ih hl h2 (h3.write (off:=f.offset) hrc (by omega))
   refine ⟨cells',?_,e2⟩
   have hs1:=hrc.1
   have hs2:=h3.1
   have hpl:(fs.map fun f=>(f.offset,P.cellsOf f.type))[i]?=some (f.offset,n):=by simp [hf,hco]
   simp only [List.map_cons,Instr.fill,hpl]
   rw [if_neg (by simp; omega)]
   exact e1
  ·cases h2
def KZ (hr:Rel j M w) (he:aL j M w env a) {t:TypeId} {parts:Array (Nat×Operand)} {fs:Array Field} {i:TypeInfo} {zv:Value} {l:List ae} {ps:List (Nat×Nat×cj)} (hop:o.op = .build t parts)
  (ht:P.underlying t=some (.struct fs)) (hi:P.info? t=some i) (hzv:i.zero=some zv) (hl:jL zv.cells.toList=some l) (hps:rY P fs parts.toList=some ps) (hfs:fs.all (fun f=>(P.info? f.type).isSome)=true)
  (h:bd C env M (.build l ps)=some x):∃v w',im P o a w v w'/\cG j M w x v w':=by
 simp only [bd] at h
 obtain ⟨cs,hcs,h⟩:=au h
 injection h with h; subst h
 obtain ⟨h1,h2⟩:=gJ (j:=j) (M:=M) (w:=w) hl
 have hfs':∀f,f∈fs.toList->(P.info? f.type).isSome=true:=fun f hf=>by
  have:=Array.all_eq_true'.1 hfs f (by simpa using hf)
  simpa using this
 obtain ⟨cells',e1,e2⟩:=zR (P:=P) he hfs' hps hcs (cells:=zv.cells) ⟨by simpa using h1,fun i c v hc hv=>h2 i c v hc (by simpa using hv)⟩
 have hmap:(fs.mapM fun f=>do pure (f.offset,<-sizeOf f.type):Sem _).run P w = .ok (fs.map fun f=>(f.offset,P.cellsOf f.type)) w:=by
  rw [Array.mapM_eq_mapM_toList]
  have hm:=KN (P:=P) (w:=w) (g:=fun f:Field=>(do pure (f.offset,<-sizeOf f.type):Sem _)) (f:=fun f:Field=>(f.offset,P.cellsOf f.type)) fs.toList fun f hf=>by
   obtain ⟨inf,hinf⟩:=Option.isSome_iff_exists.1 (hfs' f hf)
   simp [sizeOf,gu hinf,Program.cellsOf,hinf]
  rw [Sem.run_map,hm,<-Array.toList_map]
  simp only [Result.andThen_ok,Array.toArray_toList]
 refine ⟨.agg cells',w,.inl ?_,.still hr (.agg e2.1 e2.2)⟩
 have e1':Instr.fill (fun i=>(fs.map fun f=>(f.offset,P.cellsOf f.type))[i]?) zv.cells (parts.map fun p=>(p.1,a.eval p.2)).toList=some cells':=by simpa using e1
 simp only [execOp,hop,Instr.build,zeroValue,Sem.run_bind,gu hi,Result.andThen_ok,hzv,Sem.run_pure,bf ht,hmap]
 simp only [e1',Sem.run_pure,Result.andThen_ok]
def tT {y:ae} {v:Value} (h:bQ j M w y v) (hp:y.bS.plain=true):y.bS.cells.length=v.cells.size /\
  ∀(k:Nat) (c:ae) (u:Value),y.bS.cells[k]?=some c->v.cells[k]?=some u->bF w (fJ j M w) c u:=by
 by_cases hag:∃cs,y = .agg cs
 ·obtain ⟨cs,rfl⟩:=hag
  obtain ⟨vs,rfl,h1,h2⟩:=h.eK
  simp only [ae.bS,ae.plain,ae.cells,Value.cells] at hp ⊢
  refine ⟨by simpa using h1,fun k c u hc hu=>?_⟩
  rw [List.getElem?_map,Option.map_eq_some_iff] at hc
  obtain ⟨c0,hc0,rfl⟩:=hc
  refine rI (h2 k c0 u hc0 hu) ?_
  have:=List.all_eq_true.1 hp c0.shut (List.mem_map.2 ⟨c0,List.mem_of_getElem? hc0,rfl⟩)
  exact this
 ·have hs:y.bS=y.shut:=by cases y<;>first|rfl|exact absurd ⟨_,rfl⟩ hag
  have hpl:y.shut.plainCell=true:=by
   rw [hs] at hp
   cases y<;>first|exact hp|exact absurd ⟨_,rfl⟩ hag
  have hr:=rI h hpl
  have hc1:y.shut.cells=[y.shut]:=by cases y<;>first|rfl|exact absurd ⟨_,rfl⟩ hag
  have hv1:v.cells = #[v]:=by
   cases y<;>simp only [ae.shut,ae.plainCell,Bool.false_eq_true] at hpl
   case bool=>have:=h.df; subst this; rfl
   case int=>have:=h.bH; subst this; rfl
   case str=>have:=h.dx; subst this; rfl
   case slice=>obtain ⟨A,cap,b,off,sz,vs,e,_⟩:=h.bg.bg; subst e; rfl
   case raw=>cases h with|plain h=>cases h; cases v<;>simp_all [Value.cells]
  rw [hs,hc1,hv1]
  refine ⟨rfl,fun k c u hc hu=>?_⟩
  cases k with
  |zero=>simp at hc hu; subst hc; subst hu; exact hr
  |succ k=>simp at hc
def G4 {sz:Nat}:∀(l:List Value) (k:Nat) (cells:Array Value),(∀v,v∈l->v.cells.size=sz)->(k+l.length)*sz<=cells.size ->
  ∃cells',Instr.fill (fun i=>some (i*sz,sz)) cells ((l.zipIdx k).map fun x=>(x.2,x.1))=some cells'/\cells'.size=cells.size/\(∀p,p<k*sz->cells'[p]?=cells[p]?) /\
   ∀i v q,l[i]?=some v->q<sz->cells'[(k+i)*sz+q]?=v.cells[q]?:=by
 intro l
 induction l with
 |nil=>intro k cells _ _; exact ⟨cells,rfl,rfl,fun _ _=>rfl,fun i v q h=>by simp at h⟩
 |cons v r ih =>
  intro k cells hv hle
  have hv0:=hv v (by simp)
  have hk1:(k+1)*sz=k*sz+sz:=Nat.succ_mul k sz
  have hle':k*sz+sz<=cells.size:=by
   have:(k+1)*sz<=(k+(r.length+1))*sz:=Nat.mul_le_mul_right _ (by omega)
   simp only [List.length_cons] at hle
   omega
  obtain ⟨p1,p2⟩:=tQ cells (k*sz) v.cells
  obtain ⟨cells',e1,e2,e3,e4⟩:=ih (k+1) (putRow cells (k*sz) v.cells) (fun u hu=>hv u (by simp [hu])) (by rw [p1]; simp only [List.length_cons] at hle; rw [show k+1+r.length=k+(r.length+1) by omega]; exact hle)
  refine ⟨cells',?_,by rw [e2,p1],fun p hp=>?_,fun i u q hi hq=>?_⟩
  ·rw [List.zipIdx_cons,List.map_cons]
   simp only [Instr.fill]
   rw [if_neg (by simp; omega)]
   exact e1
  ·rw [e3 p (by omega),p2,if_neg (by omega)]
  ·cases i with
   |zero =>
    simp at hi; subst hi
    rw [Nat.add_zero,e3 _ (by omega),p2,if_pos (by omega)]
    congr 1
    omega
   |succ i =>
    have:=e4 i u q (by simpa using hi) hq
    rw [show k+1+i=k+(i+1) by omega] at this
    exact this
def wI:∀ {l:List (Nat×Operand)} {k:Nat} {zs:List cj},zB k l=some zs->∃ys:List Operand,l=(ys.zipIdx k).map (fun x=>(x.2,x.1))/\mb ys=some zs
 | [],k,zs,h=>by simp [zB] at h; subst h; exact ⟨[],rfl,rfl⟩
 |(i,y)::r,k,zs,h=>by
  simp only [zB] at h
  split at h
  ·rename_i hi
   obtain ⟨z,hz,h⟩:=an h
   obtain ⟨l,hl,h⟩:=an h
   injection h with h; subst h
   obtain ⟨ys,e1,e2⟩:=wI hl
   exact ⟨y::ys,by rw [List.zipIdx_cons,List.map_cons,hi,e1],by simp [mb,hz,e2]⟩
  ·cases h
def xt:∀ {zs:List cj} {sz:Nat} {l:List ae},j8 env sz zs=some l->l.length=zs.length /\
  ∀(i:Nat) (y:ae) (z:cj),l[i]?=some y->zs[i]?=some z->y=(z.ev env).bS/\y.plain=true/\y.cells.length=sz
 | [],sz,l,h=>by simp [j8] at h; subst h; exact ⟨rfl,fun i y z h=>by simp at h⟩
 |z::r,sz,l,h=>by
  simp only [j8] at h
  split at h
  ·rename_i hc
   obtain ⟨l',hl,h⟩:=au h
   injection h with h; subst h
   obtain ⟨h1,h2⟩:=xt hl
   refine ⟨by simp [h1],fun i y z' hy hz=>?_⟩
   cases i with
   |zero=>simp at hy hz; subst hy; subst hz; exact ⟨rfl,hc.1,hc.2⟩
   |succ i=>exact h2 i y z' (by simpa using hy) (by simpa using hz)
  ·cases h
def iH (o:Obj):Quiet w { w with heap:=w.heap.push o }/\(∀b,b<w.heap.size->({ w with heap:=w.heap.push o }:World).heap[b]?=w.heap[b]?)/\({ w with heap:=w.heap.push o }:World).heap[w.heap.size]?=some o :=
 ⟨⟨by simp,rfl,rfl,rfl⟩,fun b hb=>by
  show (w.heap.push _)[b]?=_
  rw [Array.getElem?_push,if_neg (by omega)],by simp⟩
def xn (he:aL j M w env a) {t e:TypeId} {len:Nat} {parts:Array (Nat×Operand)} {i:TypeInfo} {zs:List cj} {l:List ae} (hop:o.op = .buildSlice t len parts) (ht:P.underlying t=some (.slice e))
  (hi:P.info? e=some i) (hzs:zB 0 parts.toList=some zs) (hlen:zs.length=len) (hroom:len*i.size<=2 ^ 24) (hzero:(i.zero.map fun z=>z.cells.size)=some i.size)
  (hl:j8 env i.size zs=some l):l.length=len/\wid l i.size/\∃cells':Array Value,cells'.size=len*i.size /\
   (execOp a.eval o).run P w = .ok (.value (.slice (some ⟨w.heap.size,0,none⟩) len len)) { w with heap:=w.heap.push (.cells cells' e (0,0)) } /\
   ∀(n:Nat) (y:ae) (k:Nat) (c:ae),l[n]?=some y->y.cells[k]?=some c->∃u,cells'[n*i.size+k]?=some u/\bF w (fJ j M w) c u:=by
 obtain ⟨ys,hys,hyz⟩:=wI hzs
 obtain ⟨l1,l2⟩:=xt hl
 obtain ⟨y1,y2⟩:=kV he hyz
 obtain ⟨zv,hzv,hzs'⟩:∃zv,i.zero=some zv/\zv.cells.size=i.size:=by
  cases hz:i.zero with
  |none=>rw [hz] at hzero; cases hzero
  |some zv=>rw [hz] at hzero; exact ⟨zv,rfl,by simpa using hzero⟩
 have hvs:∀v,v∈ys.map a.eval->v.cells.size=i.size:=by
  intro v hv
  obtain ⟨y,hy,rfl⟩:=List.mem_map.1 hv
  obtain ⟨p,hp,rfl⟩:=List.getElem_of_mem hy
  have hpz:p<zs.length:=by omega
  have hpl:p<l.length:=by omega
  have hrep:=y2 p _ _ (List.getElem?_eq_getElem hpz) (List.getElem?_eq_getElem hp)
  obtain ⟨e1,e2,e3⟩:=l2 p _ _ (List.getElem?_eq_getElem hpl) (List.getElem?_eq_getElem hpz)
  have:=(tT hrep (by rw [<-e1]; exact e2)).1
  rw [<-e1] at this
  omega
 let zero:Array Value:=if len*i.size=0 then #[] else zv.cells
 let cells0:Array Value:=(Array.range (len*i.size)).map (zero[· % zero.size]!)
 obtain ⟨cells',f1,f2,f3,f4⟩:=G4 (sz:=i.size) (ys.map a.eval) 0 cells0 hvs (by simp [cells0,<-hlen,y1])
 have hfill:Instr.fill (fun k=>some (k*i.size,i.size)) cells0 (parts.map fun p=>(p.1,a.eval p.2)).toList=some cells':=by
  have:(parts.map fun p=>(p.1,a.eval p.2)).toList=((ys.map a.eval).zipIdx 0).map fun x=>(x.2,x.1):=by
   rw [Array.toList_map,hys,List.map_map,List.zipIdx_map,List.map_map]
   rfl
  rw [this]; exact f1
 have hrun:(execOp a.eval o).run P w = .ok (.value (.slice (some ⟨w.heap.size,0,none⟩) len len)) { w with heap:=w.heap.push (.cells cells' e (0,0)) }:=by
  simp only [execOp,hop,Instr.buildSlice,Sem.run_bind,bf ht,Result.andThen_ok,cY (show hZ P e=some i.size by simp [hZ,hi]),if_neg (show ¬len*i.size>2 ^ 24 by omega),Sem.run_pure]
  simp only [cells0] at hfill
  by_cases hc:len*i.size=0
  ·have hz:zero = #[]:=if_pos hc
   rw [hz] at hfill
   rw [if_pos hc]
   simp only [Sem.run_bind,Sem.run_pure,Result.andThen_ok,hfill]
   simp [newRow]
  ·have hz:zero=zv.cells:=if_neg hc
   rw [hz] at hfill
   rw [if_neg hc]
   simp only [zeroValue,Sem.run_bind,gu hi,Result.andThen_ok,hzv,Sem.run_pure,hfill]
   simp [newRow]
 have hel:∀(n:Nat) (y:ae) (k:Nat) (c:ae),l[n]?=some y->y.cells[k]?=some c->∃u,cells'[n*i.size+k]?=some u/\bF w (fJ j M w) c u:=by
  intro n y k c hn hk
  have hnl:=aj hn
  have hz:=List.getElem?_eq_getElem (show n<zs.length by omega)
  have hy:=List.getElem?_eq_getElem (show n<ys.length by omega)
  obtain ⟨e1,e2,e3⟩:=l2 n y _ hn hz
  have hrep:=y2 n _ _ hz hy
  obtain ⟨s1,s2⟩:=tT hrep (by rw [<-e1]; exact e2)
  rw [<-e1] at s1 s2
  have hkl:=aj hk
  have hu:=Array.getElem?_eq_getElem (show k<(a.eval ys[n]).cells.size by omega)
  have f:=f4 n (a.eval ys[n]) k (by simp [hy]) (by omega)
  rw [Nat.zero_add] at f
  exact ⟨_,f.trans hu,s2 k c _ hk hu⟩
 refine ⟨by omega,fun y hy=>?_,cells',by first|(simp [f2,cells0])|(simp [f3,cells0]),hrun,hel⟩
 obtain ⟨p,hp,rfl⟩:=List.getElem_of_mem hy
 exact (l2 p _ _ (List.getElem?_eq_getElem hp) (List.getElem?_eq_getElem (by omega))).2.2
def DU (hr:Rel j M w) (he:aL j M w env a) {t e:TypeId} {len:Nat} {parts:Array (Nat×Operand)} {i:TypeInfo} {zs:List cj} (hop:o.op = .buildSlice t len parts) (ht:P.underlying t=some (.slice e))
  (hi:P.info? e=some i) (hzs:zB 0 parts.toList=some zs) (hlen:zs.length=len) (hroom:len*i.size<=2 ^ 24) (hzero:(i.zero.map fun z=>z.cells.size)=some i.size)
  (h:bd C env M (.lits i.size zs)=some x):∃v w',im P o a w v w'/\cG j M w x v w':=by
 simp only [bd] at h
 obtain ⟨l,hl,h⟩:=au h
 obtain ⟨hll,hwd,cells',_,hrun,hel⟩:=xn (w:=w) he hop ht hi hzs hlen hroom hzero hl
 obtain ⟨q,hb,dH⟩:=iH (w:=w) (.cells cells' e (0,0))
 refine ⟨_,_,.inl hrun,?_⟩
 have ext:Ext j M w j M { w with heap:=w.heap.push (.cells cells' e (0,0)) }:=Ext.grow q.size rfl rfl rfl hb
 have rel:Rel j M { w with heap:=w.heap.push (.cells cells' e (0,0)) }:=hr.grow q.size rfl rfl rfl hb
 have key:bF { w with heap:=w.heap.push (.cells cells' e (0,0)) } (fJ j M { w with heap:=w.heap.push (.cells cells' e (0,0)) }) (.slice .sh l) (.slice (some ⟨w.heap.size,0,none⟩) len len):=by
  refine .slice l _ _ _ w.heap.size 0 i.size (fun p=>(cells'[p]?).getD undef) hll.symm (Nat.le_refl _) (fun _=>rfl) hwd (fun n y k c hn hk=>?_) (fun n y k c hn hk=>?_)
  ·obtain ⟨u,hu,_⟩:=hel n y k c hn hk
   refine ⟨?_,by simp,fun id hid hj=>?_,fun hx=>absurd (hr.qo _ _ hx) (Nat.lt_irrefl _)⟩
   ·simp only [World.cell?,dH,Nat.zero_add,hu]
    rfl
   ·have:=hr.lt id _ hid hj
    omega
  ·obtain ⟨u,hu,hru⟩:=hel n y k c hn hk
   rw [hu]
   exact hru.mono ext.cu
 injection h with h
 subst h
 cases l with
 |nil =>
  have:len=0:=by simpa using hll.symm
  subst this
  exact ⟨j,rel,ext,.c0 _⟩
 |cons y r=>exact ⟨j,rel,ext,.plain key⟩
def K7 (hr:Rel j M w) (he:aL j M w env a) {t e:TypeId} {len:Nat} {parts:Array (Nat×Operand)} {i:TypeInfo} {zs:List cj} (hop:o.op = .buildSlice t len parts) (ht:P.underlying t=some (.slice e))
  (hi:P.info? e=some i) (hzs:zB 0 parts.toList=some zs) (hlen:zs.length=len) (hroom:len*i.size<=2 ^ 24) (hzero:(i.zero.map fun z=>z.cells.size)=some i.size)
  (h:bd C env M (.vt i.size zs)=some x):∃v w',im P o a w v w'/\cG j M w x v w':=by
 simp only [bd] at h
 obtain ⟨l,hl,h⟩:=au h
 injection h with h; subst h
 obtain ⟨hll,hwd,cells',hcs,hrun,hel⟩:=xn (w:=w) he hop ht hi hzs hlen hroom hzero hl
 obtain ⟨q,hb,dH⟩:=iH (w:=w) (.cells cells' e (0,0))
 have hob:∀b,some w.heap.size=some b->w.heap.size<=b/\b<({ w with heap:=w.heap.push (.cells cells' e (0,0)) }:World).heap.size:=fun b h=>by injection h with h; subst h; simp
 have ext:Ext j M w (bX j M.length (some w.heap.size)) (M++[.tick i.size l.length]) { w with heap:=w.heap.push (.cells cells' e (0,0)) }:=Ext.push (fun b hb=>(hob b hb).1) q hb
 refine ⟨_,_,.inl hrun,bX j M.length (some w.heap.size),hr.push hob q hb (fun h=>by cases h) (fun sz n b _ hb=>by injection hb with hb; subst hb; exact ⟨cells',e,dH⟩),ext,?_⟩
 refine .own (sz:=i.size) (n:=l.length) (by simp) (Nat.le_refl _) ?_ fun _ => .inr ⟨w.heap.size,len,cells',e,by simp [bX],by rw [hll],dH,by omega,by omega⟩
 refine .slice l _ _ _ w.heap.size 0 i.size (fun p=>(cells'[p]?).getD undef) hll.symm (Nat.le_refl _) (fun _=>rfl) hwd (fun n y k c hn hk=>?_) (fun n y k c hn hk=>?_)
 ·obtain ⟨u,hu,_⟩:=hel n y k c hn hk
  have hk':k<i.size:=by rw [<-hwd y (List.mem_of_getElem? hn)]; exact aj hk
  refine ⟨?_,by simp,fun id hid hj=>?_,fun hx=>absurd (hr.qo _ _ (by rw [<-ext.X]; exact hx)) (Nat.lt_irrefl _)⟩
  ·simp only [World.cell?,dH,Nat.zero_add,hu]
   rfl
  ·have hid':id=M.length:=by
    rcases Nat.lt_or_ge id M.length with h|h
    ·rw [show bX j M.length (some w.heap.size) id=j id by simp [bX,Nat.ne_of_lt h]] at hj
     exact absurd (hr.lt id _ h hj) (Nat.lt_irrefl _)
    ·simp at hid; omega
   subst hid'
   refine ⟨i.size,l.length,by simp,?_⟩
   have:=Nat.mul_le_mul_right i.size (show n+1<=l.length from aj hn)
   rw [Nat.add_mul] at this
   omega
 ·obtain ⟨u,hu,hru⟩:=hel n y k c hn hk
  rw [hu]
  exact hru.mono ext.cu
end
end
end Go.Abs
