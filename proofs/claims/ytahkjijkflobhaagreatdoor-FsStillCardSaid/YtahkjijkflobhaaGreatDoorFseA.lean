import Derived.Calls
import Derived.Laws.Sem
import Derived.Below
import Derived.Test.YtahkjijkflobhaaGreatDoorProg
import Derived.Test.YtahkjijkflobhaaGreatDoorCards
import Derived.ChangeSame
import Derived.ChangeVars
import Derived.JoinedOf
import Derived.RowKit
import Derived.RowKitTokens
import Derived.LaidLaws
import Derived.LaidHandle
import Derived.Stop.Joined
import Derived.Lib.LaidU8
import Derived.Deep.DeepHandedRow
import Derived.Deep.DeepWitnessRowRef
import Derived.ProofKit
import Derived.SizedLaws
import Derived.Carry
import Derived.OpenShut
import Derived.Deep.Slices
import Derived.Deep.Fields
import Derived.ChangeOld
import Derived.Shelf.Vars
import Derived.Lib.LaidIn
import Derived.KernelRfl
import Derived.Laws.Strings
set_option linter.unusedSimpArgs false
set_option linter.unusedVariables false
set_option linter.unusedSectionVars false
set_option linter.defProp false
namespace Go.Abs
section
open Go
inductive Tk where
 |sh|c0|own (k:Nat)
 deriving DecidableEq,Repr
inductive ae where
 |bool (b:Bool)
 |int (k:IntKind) (n:Int)
 |str (s:List UInt8)
 |slice (tk:Tk) (xs:List ae)
 |agg (cs:List ae)
 |tuple (vs:List ae)
 |ptr (id off:Nat)
 |dq (cs:List ae)
 |func (f:Nat) (caps:List ae)
 |cU (id:Nat)
 |dD (id:Nat)
 |dI (ks vs:List ae)
 |aW (id ver sz lo hi:Nat)
 |dk (id ver i off:Nat)
 |iM (f:Nat) (fs:List ae)
 |dU (t id off:Nat)
 |raw (v:Value)
 |fQ (v:Value)
 |any
 deriving Inhabited
def ae.dJ:ae->Bool
 | .fQ _=>true
 | .bool _ | .int .. | .str _ | .slice .. | .agg _ | .tuple _ | .ptr .. | .dq _ | .func .. | .cU _ | .dD _ | .dI .. | .aW .. | .dk .. | .iM .. | .dU .. | .raw _ | .any=>false
inductive aM where
 |cells (cs:List ae)
 |tick (sz n:Nat)
 |map (ks vs:List ae)
 |fI (s:List UInt8) (pos:Nat)
 |arr (sz ver:Nat) (xs:List ae)
 |nz
def aM.tag:aM->Nat
 | .cells _=>0
 | .tick sz _=>sz+3
 | .map _ _=>1
 | .fI _ _=>2
 | .arr sz _ _=>sz+3
 | .nz=>3
def aM.fixed:aM->Bool
 | .tick _ _ | .arr _ _ _ | .nz=>false
 |_=>true
def aM.loose:aM->Bool
 | .tick _ _ | .arr _ _ _=>true
 |_=>false
abbrev aj:=List aM
abbrev Env:=List (Nat×ae)
def aG{α β:Type}(x:Option α)(f:α->Option β):Option β:=match x with
 |some a=>f a
 |none=>none
@[congr] theorem U0 {α β:Type} {x x':Option α} {f:α->Option β} (h:x=x'):aG x f=aG x' f:=by rw[h]
@[simp] theorem aI {α β:Type} (a:α) (f:α->Option β):aG (some a) f=f a:=rfl
@[simp] theorem Y3 {α β:Type} (f:α->Option β):aG none f=none:=rfl
def rn{α:Type}(b:Bool)(x y:Option α):Option α:=match b with
 |true=>x
 |false=>y
@[congr] theorem aak {α:Type} {b b':Bool} {x y:Option α} (h:b=b'):rn b x y=rn b' x y:=by rw[h]
@[simp] theorem o5 {α:Type} (x y:Option α):rn true x y=x:=rfl
@[simp] theorem iW {α:Type} (x y:Option α):rn false x y=y:=rfl
@[simp] theorem Hz {α β:Type} (b:Bool) (x y:Option α) (f:α->Option β):aG (rn b x y) f=rn b (aG x f) (aG y f):=by cases b<;>rfl
open Classical in
noncomputable def aQ{α:Type}(p:Prop)(x:Option α):Option α:=if p then x else none
@[congr] theorem U3 {α:Type} {p p':Prop} {x:Option α} (h:p=p'):aQ p x=aQ p' x:=by rw[h]
theorem bo{α:Type}{p:Prop}{x:Option α}(h:p):aQ p x=x:=if_pos h
@[simp] theorem Ei {α:Type} (x:Option α):aQ True x=x:=if_pos trivial
@[simp] theorem uQ {α:Type} (x:Option α):aQ False x=none:=if_neg not_false
@[simp] theorem U1 {α β:Type} (p:Prop) (x:Option α) (f:α->Option β):aG (aQ p x) f=aQ p (aG x f):=by
 unfold aQ; split<;>rfl
def dg:Env->Nat->ae
 | [],_ => .any
 |(k,v)::e,t=>if k=t then v else dg e t
def ae.cells:ae->List ae
 | .agg cs=>cs
 |x=>[x]
def ae.dp:ae->Bool
 | .agg _ | .tuple _ | .any | .fQ _=>false
 | .raw v=>match v with | .agg _ | .tuple _=>false|_=>true
 |_=>true
def ae.cells?:ae->Option (List ae)
 | .agg cs=>some cs
 | .tuple _ | .any | .fQ _=>none
 | .raw (.agg _)=>none
 |x=>some [x]
def ae.shut:ae->ae
 | .slice _ xs => .slice .sh xs
 |x=>x
def ae.cu:ae->ae
 | .slice _ xs => .slice .sh xs
 | .agg cs => .agg (cs.map ae.shut)
 |x=>x
def ae.plainCell:ae->Bool
 | .bool _ | .int .. | .str _=>true
 | .slice .sh _=>true
 | .raw v=>match v with | .pointer none | .nilFunc | .nilIface | .map none | .func _ ⟨[]⟩ ⟨[]⟩=>true|_=>false
 |_=>false
def ae.plain:ae->Bool
 | .agg cs=>cs.all ae.plainCell
 |x=>x.plainCell
def ae.dQ(base:Nat)(M:aj):ae->ae
 | .slice (.own k) xs=>if k<base then .slice (.own k) xs else .slice .sh xs
 | .ptr id off=>if id<base then .ptr id off else .any
 | .cU id=>if id<base then .cU id else .any
 | .dD id=>if id<base then .dD id else .any
 | .aW id ver sz lo hi=>if id<base then .aW id ver sz lo hi else match M[id]? with
  |some (.arr _ v xs)=>if v=ver then .slice .sh ((xs.take hi).drop lo) else .any
  |_ => .any
 | .dk id ver i off=>if id<base then .dk id ver i off else .any
 | .dU t id off=>if id<base then .dU t id off else .any
 | .func _ _ | .agg _ | .tuple _ => .any
 |x=>x
def ae.eH(base:Nat)(M:aj):ae->ae
 | .func f caps => .func f (caps.map (ae.dQ base M))
 |x=>x.dQ base M
def ae.eJ(base:Nat)(M:aj):ae->ae
 | .agg cs => .agg (cs.map (ae.eH base M))
 |x=>x.eH base M
def ae.gx(base:Nat)(M:aj):ae->ae
 | .tuple vs => .tuple (vs.map (ae.eJ base M))
 |x=>x.eJ base M
def aM.back(base:Nat)(M:aj):aM->aM
 | .cells cs => .cells (cs.map (ae.eH base M))
 | .tick sz n => .tick sz n
 | .map ks vs => .map ks (vs.map (ae.eJ base M))
 | .fI s p => .fI s p
 | .arr sz v xs => .arr sz v xs
 | .nz => .nz
def fh(base:Nat)(M:aj):aj:=(M.take base).map (aM.back base M)
def rJ(base:Nat)(M:aj)(env:Env):Env:=env.map fun x=>(x.1,x.2.gx base M)
def ae.dY(base:Nat)(M:aj):ae->ae
 | .slice _ xs => .slice .sh xs
 | .cU id=>if id<base then .cU id else match M[id]? with
  |some (.map ks vs)=>if vs.all ae.plain&&ks.all ae.plainCell then .dI ks vs else .any
  |_ => .any
 |x=>x.eH base M
def ae.eh(base:Nat)(M:aj):ae->ae
 | .agg cs => .agg (cs.map (ae.dY base M))
 |x=>x.dY base M
def ae.fC(base:Nat)(M:aj):ae->ae
 | .tuple vs => .tuple (vs.map (ae.eh base M))
 |x=>x.eh base M
def ae.cX:ae->List Nat
 | .ptr id _ | .cU id | .dD id | .aW id _ _ _ _ | .dk id _ _ _=>[id]
 | .slice (.own k) _=>[k]
 | .dU _ id _=>[id]
 |_=>[]
def ae.fP:ae->List Nat
 | .func _ caps=>caps.flatMap ae.cX
 |x=>x.cX
def ae.ids:ae->List Nat
 | .agg cs=>cs.flatMap ae.fP
 |x=>x.fP
def ae.x5:ae->Bool
 | .func _ _ | .agg _ | .tuple _=>false
 |_=>true
def ae.n9:ae->Bool
 | .func _ caps=>caps.all ae.x5
 | .agg _ | .tuple _=>false
 |_=>true
def ae.flat:ae->Bool
 | .agg cs=>cs.all ae.n9
 |x=>x.n9
def aM.flat:aM->Bool
 | .nz=>false
 | .cells cs=>cs.all ae.n9
 | .map _ vs=>vs.all ae.flat
 |_=>true
def ae.kJ(ρ:Nat->Nat):ae->ae
 | .ptr id off => .ptr (ρ id) off
 | .cU id => .cU (ρ id)
 | .dD id => .dD (ρ id)
 | .aW id v sz lo hi => .aW (ρ id) v sz lo hi
 | .dk id v i off => .dk (ρ id) v i off
 | .slice (.own k) xs => .slice (.own (ρ k)) xs
 | .dU t id off => .dU t (ρ id) off
 |x=>x
def ae.kK(ρ:Nat->Nat):ae->ae
 | .func f caps => .func f (caps.map (ae.kJ ρ))
 |x=>x.kJ ρ
def ae.iE(ρ:Nat->Nat):ae->ae
 | .agg cs => .agg (cs.map (ae.kK ρ))
 |x=>x.kK ρ
def ae.vm(ρ:Nat->Nat):ae->ae
 | .tuple vs => .tuple (vs.map (ae.iE ρ))
 |x=>x.iE ρ
def ae.oN:ae->Bool
 | .tuple vs=>vs.all ae.flat
 |x=>x.flat
def aM.iE(ρ:Nat->Nat):aM->aM
 | .cells cs => .cells (cs.map (ae.kK ρ))
 | .map ks vs => .map ks (vs.map (ae.iE ρ))
 |b=>b
def aM.ids:aM->List Nat
 | .cells cs=>cs.flatMap ae.fP
 | .map _ vs=>vs.flatMap ae.ids
 |_=>[]
def nth{α:Type}:List α->Nat->Option α
 | [],_=>none
 |a::_,0=>some a
 |_::l,n+1=>nth l n
def dA{α:Type}:List α->Nat->α->List α
 | [],_,_=>[]
 |_::l,0,x=>x::l
 |a::l,n+1,x=>a::dA l n x
def ef:List Nat->List Nat->List Nat
 |a,[]=>a
 |a,x::r=>ef (if a.contains x then a else a++[x]) r
def iU(M:aj):List Nat->List Nat
 | []=>[]
 |i::r=>(match nth M i with|some b=>b.ids|none=>[])++iU M r
def eG(M:aj)(acc:List Nat):List Nat:=ef acc (iU M acc)
def reach(M:aj)(l:List Nat):List Nat:=eG M (eG M (eG M (ef [] l)))
def da:List Nat->Nat->Nat
 | [],_=>0
 |a::l,x=>if a=x then 0 else da l x+1
def px(ids:List Nat)(i:Nat):Nat:=(nth ids i).getD 0
def dK(M:aj)(ρ:Nat->Nat):List Nat->Option aj
 | []=>some []
 |i::r=>match nth M i with
  |some b=>if b.flat then aG (dK M ρ r) fun l=>some (b.iE ρ::l) else none
  |none=>none
def eW(ids:List Nat)(M:aj):List Nat->aj->aj
 |i::r,b::l=>eW ids (dA M i (b.iE (px ids))) r l
 |_,_=>M
def ae.gQ(M:aj):ae->ae
 | .aW id ver sz lo hi=>match nth M id with
  |some (.arr _ v xs)=>if v=ver then .slice .sh ((xs.take hi).drop lo) else .any
  |_ => .any
 |x=>x
def ae.ot(M:aj):ae->ae
 | .agg cs => .agg (cs.map (ae.gQ M))
 |x=>x.gQ M
def kC(M:aj):List Nat->aj
 | []=>M
 |i::r=>match nth M i with
  |some (.arr sz _ xs)=>kC (dA M i (.tick sz xs.length)) r
  |_=>kC M r
inductive cR where
 |tmp (t:Nat)
 |ep (v:ae)
def cR.ev(env:Env):cR->ae
 | .tmp t=>dg env t
 | .ep v=>v
inductive Ga where
 |add|sub|mul|quo|rem|eql|neq|lss|leq|gtr|geq|shl|shr|and|or|xor
 deriving DecidableEq,Repr
inductive FK where
 |i|s|b
 deriving DecidableEq
inductive eu where
 |mv (x:cR)
 |own (sz:Nat) (x:cR)
 |pick (c a b:cR)
 |iB (cs:List ae)
 |box (x:cR)
 |build (zero:List ae) (parts:List (Nat×Nat×cR))
 |lits (sz:Nat) (parts:List cR)
 |wK (sz:Nat) (parts:List cR)
 |eT (n:Nat) (x:cR)
 |cY (x:cR)
 |store (n:Nat) (a x:cR)
 |um (sz p n:Nat) (a x:cR)
 |Rb (x:cR)
 |bin (op:Ga) (x y:cR)
 |Rk (ks:List FK) (neg:Bool) (x y:cR)
 |Wp (neg:Bool) (x y:cR)
 |not (x:cR)
 |neg (x:cR)
 |conv (k:IntKind) (x:cR)
 |same (x:cR)
 |fn (f:Nat) (caps:List cR)
 |vR (f:Nat) (firsts:List cR)
 |pc (x:cR) (lo hi:Option cR)
 |rz (sz:Nat) (x:cR) (lo hi mx:Option cR)
 |du (off:Nat) (x:cR)
 |tC (off n:Nat) (x:cR)
 |tz (off:Nat) (x:cR)
 |mY (sz:Nat) (x i:cR)
 |oS (n sz:Nat) (x i:cR)
 |oT (x i:cR)
 |extract (x:cR) (i:Nat)
 |call (f:Nat) (args:List cR)
 |nY (f:cR) (args:List cR)
 |uC (f:Nat) (args:List cR)
 |eE (f:Nat) (args:List cR)
 |nW (f:Nat) (args:List cR)
 |tp (sz:Nat) (zero:List ae) (x:cR)
 |Hn (x:cR)
 |wJ (x:cR)
 |append (sz bytes:Nat) (x y:cR)
 |rm (mx:Bool) (x y:cR)
 |b2s (x:cR)
 |mkMap
 |look (fk:FK) (zero:ae) (ok:Bool) (m k:cR)
 |cH (fk:FK) (m k v:cR)
 |Hm (m:cR)
 |HT (x:cR)
 |yB (it:cR)
 |iface (t:Nat) (x:cR)
 |raise (x:cR)
 |Y0 (zero:List ae) (n:cR)
 |Hw (zero:List ae) (n:cR)
 |pr (sz bytes:Nat) (zero:List ae) (x n:cR)
 |nD (sz bytes:Nat) (x y:cR)
 |xU (sz:Nat) (x y:cR)
 |Gv (sz:Nat)
structure aX where
 dst:Option Nat
 op:eu
 guard:Option (Nat×Bool)
 grow:Bool:=false
 oh:Bool:=false
 sep:List Nat:=[]
 stop:Bool:=true
def ob(d:Nat)(o:eu):aX:=⟨some d,o,none,false,false,[],true⟩
def og(d g:Nat)(b:Bool)(o:eu):aX:=⟨some d,o,some (g,b),false,false,[],true⟩
def ox(o:eu):aX:=⟨none,o,none,false,false,[],true⟩
def eu.I0:eu->Bool
 | .call .. | .nY .. | .uC .. | .eE .. | .raise _=>true
 |_=>false
inductive aO where
 |skip
 |region (ops:List aX) (draw:Bool) (live:List Nat)
 |seq (a b:aO)
 |cond (c:cR) (x y:aO)
 |block (id:Nat) (c:aO)
 |loop (live:List Nat) (c:aO)
 |exit (id:Nat)
 |ret
inductive Ue where
 |normal|exit (id:Nat)|ret|fQ (v:Value)
abbrev bL:=Nat->List ae->aj->Option (ae×aj)
def strLt:List UInt8->List UInt8->Bool
 |_,[]=>false
 | [],_::_=>true
 |a::x,b::y=>a<b||(a==b&&strLt x y)
def ak0(k:IntKind)(a b:Int):Int:=k.wrap (BitVec.ofInt k.bits a &&& BitVec.ofInt k.bits b).toNat
def ior(k:IntKind)(a b:Int):Int:=k.wrap (BitVec.ofInt k.bits a ||| BitVec.ofInt k.bits b).toNat
def ak5(k:IntKind)(a b:Int):Int:=k.wrap (BitVec.ofInt k.bits a ^^^ BitVec.ofInt k.bits b).toNat
def hZ(b:UInt8):ae := .int .u8 b.toNat
def iI(op:Ga):ae->ae->Option ae
 | .int k a,.int k' b =>
  match op with
  | .shl=>if 0<=b then some (.int k (k.wrap (a*2 ^ (min b.toNat k.bits)))) else none
  | .shr=>if 0<=b then some (.int k (a.fdiv (2 ^ (min b.toNat k.bits)))) else none
  |op=>if k≠k' then none else
   match op with
   | .add=>some (.int k (k.wrap (a+b)))
   | .sub=>some (.int k (k.wrap (a-b)))
   | .mul=>some (.int k (k.wrap (a*b)))
   | .quo=>if b=0 then none else some (.int k (k.wrap (a.tdiv b)))
   | .rem=>if b=0 then none else some (.int k (a.tmod b))
   | .eql=>some (.bool (a==b))
   | .neq=>some (.bool (a != b))
   | .lss=>some (.bool (a<b))
   | .leq=>some (.bool (a<=b))
   | .gtr=>some (.bool (a>b))
   | .geq=>some (.bool (a>=b))
   | .and=>some (.int k (ak0 k a b))
   | .or=>some (.int k (ior k a b))
   | .xor=>some (.int k (ak5 k a b))
   |_=>none
 | .str a,.str b =>
  match op with
  | .add=>if ((a.length+b.length:Nat):Int)>IntKind.i64.max then none else some (.str (a++b))
  | .eql=>some (.bool (a==b))
  | .neq=>some (.bool (a != b))
  | .lss=>some (.bool (strLt a b))
  | .leq=>some (.bool (strLt a b||a==b))
  | .gtr=>some (.bool (!(strLt a b||a==b)))
  | .geq=>some (.bool (!(strLt a b)))
  |_=>none
 |_,_=>none
def fx:FK->ae->ae->Option Bool
 | .i,.int k a,.int k' b=>if k=k' then some (a==b) else none
 | .s,.str a,.str b=>some (a==b)
 | .b,.bool a,.bool b=>some (a==b)
 |_,_,_=>none
def eB:List FK->List ae->List ae->Option Bool
 | [],[],[]=>some true
 |k::ks,a::x,b::y=>aG (fx k a b) fun e=>aG (eB ks x y) fun f=>some (e&&f)
 |_,_,_=>none
def ae.norm:ae->ae
 | .agg [c]=>c
 |x=>x
def valOf:ae->Option Value
 | .int k n=>some (.int k n)
 | .agg [.int k n]=>some (.agg #[.int k n])
 |_=>none
def bytesOf:List ae->Option (List UInt8)
 | []=>some []
 | .int .u8 n::r=>aG (bytesOf r) fun l=>some (UInt8.ofNat n.toNat::l)
 |_=>none
def tU(fk:FK)(k:ae):List ae->List ae->Option (Option ae)
 | [],[]=>some none
 |k'::ks,v::vs=>aG (fx fk k k') fun b=>rn b (some (some v)) (tU fk k ks vs)
 |_,_=>none
def tV(fk:FK)(k v:ae):List ae->List ae->Option (List ae×List ae)
 | [],[]=>aG (fx fk k k) fun _=>some ([k],[v])
 |k'::ks,v'::vs=>aG (fx fk k k') fun b=>rn b (some (k::ks,v::vs)) (aG (tV fk k v ks vs) fun x=>some (k'::x.1,v'::x.2))
 |_,_=>none
def jk(zero:ae)(ok:Bool)(r:Option ae):ae:=match ok with
 |true => .tuple [r.getD zero,.bool r.isSome]
 |false=>r.getD zero
def mapOf(M:aj):ae->Option (List ae×List ae)
 | .cU id=>match nth M id with|some (.map ks vs)=>some (ks,vs)|_=>none
 | .dI ks vs=>some (ks,vs)
 |_=>none
def fK(cs:List ae)(off:Nat)(new:List ae):List ae:=cs.take off++(new++cs.drop (off+new.length))
def putCells(e:ae)(off:Nat)(new:List ae):ae:=match e,new with
 | .agg cs,new => .agg (fK cs off new)
 |_,[c]=>c
 |e,_=>e
def eZ(env:Env):List ae->List (Nat×Nat×cR)->Option (List ae)
 |cs,[]=>some cs
 |cs,(off,n,x)::r =>
  aG (x.ev env).cells? fun new=>if new.length=n/\off+n<=cs.length then eZ env (fK cs off new) r else none
def kg(env:Env)(sz:Nat):List cR->Option (List ae)
 | []=>some []
 |x::r=>if (x.ev env).cu.plain=true/\(x.ev env).cu.cells.length=sz then aG (kg env sz r) fun l=>some ((x.ev env).cu::l) else none
def bX(env:Env)(n:Nat):Option cR->Option Int
 |none=>some n
 |some x=>match x.ev env with | .int _ i=>some i|_=>none
def wid(xs:List ae)(sz:Nat):Prop:=∀x,x∈xs->x.cells.length=sz
def aP(n bytes:Nat):Prop:=n*bytes<=2 ^ 44
noncomputable def ar(call:bL)(f:Nat)(vs:List ae)(M:aj):Option (ae×aj) :=
 if vs.all ae.flat then
  aG (dK M (da (reach M (vs.flatMap ae.ids))) (reach M (vs.flatMap ae.ids))) fun B =>
   if eG M (reach M (vs.flatMap ae.ids))=reach M (vs.flatMap ae.ids) then
    aG (call f (vs.map (ae.iE (da (reach M (vs.flatMap ae.ids))))) B) fun x =>
     if x.2.length=B.length/\x.1.oN=true/\x.2.all aM.flat=true then some (x.1.vm (px (reach M (vs.flatMap ae.ids))),eW (reach M (vs.flatMap ae.ids)) M (reach M (vs.flatMap ae.ids)) x.2) else none
   else none
 else none
noncomputable def ud(call:bL)(f:Nat)(vs:List ae)(M:aj):Option (ae×aj) :=
 if vs.all ae.flat=true/\vs.flatMap ae.ids=[] then
  aG (call f vs []) fun x=>match x.1,x.2 with
   | .slice (.own 0) xs,[.tick sz n]=>some (.slice (.own M.length) xs,M++[.tick sz n])
   |_,_=>none
 else none
noncomputable def bC(call:bL)(env:Env)(M:aj):eu->Option (ae×aj)
 | .mv x=>some (x.ev env,M)
 | .own sz x =>
  match x.ev env with
  | .slice .c0 []=>some (.slice (.own M.length) [],M++[.tick sz 0])
  |_=>none
 | .pick c a b=>match c.ev env with
  | .bool t=>rn t (some (a.ev env,M)) (some (b.ev env,M))
  |_=>none
 | .iB cs=>some (.ptr M.length 0,M++[.cells cs])
 | .box x=>aG (x.ev env).cells? fun cs=>some (.ptr M.length 0,M++[.cells cs])
 | .build zero parts=>aG (eZ env zero parts) fun cs=>some (.agg cs,M)
 | .lits sz parts=>aG (kg env sz parts) fun l=>some (match l with|[] => .slice .c0 []|_ => .slice .sh l,M)
 | .wK sz parts=>aG (kg env sz parts) fun l=>some (.slice (.own M.length) l,M++[.tick sz l.length])
 | .eT n x =>
  match x.ev env with
  | .ptr id off=>match nth M id with
   |some (.cells cs)=>if off+n<=cs.length then some (.agg ((cs.drop off).take n),M) else none
   |_=>none
  | .dq cs=>if n<=cs.length then some (.agg (cs.take n),M) else none
  | .dk id ver i off=>match nth M id with
   |some (.arr _ v xs)=>if v=ver then aG (xs[i]?) fun e=>if off+n<=e.cells.length then some (.agg ((e.cells.drop off).take n),M) else none else none
   |_=>none
  |_=>none
 | .cY x =>
  match x.ev env with
  | .ptr id off=>match nth M id with
   |some (.cells cs)=>aG (nth cs off) fun c=>some (c,M)
   |_=>none
  | .dq cs=>aG (nth cs 0) fun c=>some (c,M)
  | .dk id ver i off=>match nth M id with
   |some (.arr _ v xs)=>if v=ver then aG (xs[i]?) fun e=>aG (nth e.cells off) fun c=>some (c,M) else none
   |_=>none
  |_=>none
 | .store n a x =>
  match a.ev env with
  | .ptr id off=>match nth M id with
   |some (.cells cs)=>aG (x.ev env).cells? fun new =>
    if new.length=n/\off+n<=cs.length/\new.all ae.dp=true then some (.any,dA M id (.cells (fK cs off new))) else none
   |_=>none
  | .dk id ver i off=>match nth M id with
   |some (.arr sz v xs)=>aG (x.ev env).cells? fun new=>aG (xs[i]?) fun e =>
    if v=ver/\new.length=n/\off+n<=e.cells.length/\(new.map ae.shut).all ae.plainCell=true then some (.any,dA M id (.arr sz ver (dA xs i (putCells e off (new.map ae.shut))))) else none
   |_=>none
  |_=>none
 | .um sz p n a x =>
  match a.ev env with
  | .ptr id off=>match nth M id with
   |some (.cells cs)=>aG (x.ev env).cells? fun new =>
    match nth new p with
    |some (.slice .c0 [])=>if new.length=n/\off+n<=cs.length/\new.all ae.dp=true then some (.any,dA M id (.cells (fK cs off (dA new p (.slice (.own M.length) []))))++[.tick sz 0]) else none
    |_=>none
   |_=>none
  |_=>none
 | .Rb x=>match x.ev env with
  | .ptr id off=>some (.ptr id off,M)
  | .dq cs=>some (.dq cs,M)
  | .func f caps=>some (.func f caps,M)
  | .dk id v i off=>some (.dk id v i off,M)
  |_=>none
 | .bin op x y=>aG (iI op (x.ev env) (y.ev env)) fun v=>some (v,M)
 | .Rk ks neg x y =>
  match x.ev env,y.ev env with
  | .agg a,.agg b=>aG (eB ks a b) fun e=>some (.bool (match neg with|true => !e|false=>e),M)
  |_,_=>none
 | .Wp neg x y=>match x.ev env,y.ev env with
  | .bool a,.bool b=>some (.bool (match neg with|true => !(a==b)|false=>a==b),M)
  |_,_=>none
 | .not x=>match x.ev env with | .bool b=>some (.bool (!b),M)|_=>none
 | .neg x=>match x.ev env with | .int k n=>some (.int k (k.wrap (0-n)),M)|_=>none
 | .conv k x=>match x.ev env with | .int _ n=>some (.int k (k.wrap n),M)|_=>none
 | .same x=>match x.ev env with | .str s=>some (.str s,M)|_=>none
 | .fn f caps=>some (.func f (caps.map (cR.ev env)),M)
 | .vR f firsts=>if (firsts.map fun x=>(x.ev env).cu).all ae.plain then some (.iM f (firsts.map fun x=>(x.ev env).cu),M) else none
 | .pc x lo hi =>
  match x.ev env with
  | .str s=>aG (bX env s.length hi) fun h=>aG (bX env 0 lo) fun l =>
   aQ (0<=h/\h<=s.length/\0<=l/\l<=h) (some (.str ((s.take h.toNat).drop l.toNat),M))
  |_=>none
 | .rz sz x lo hi mx =>
  match x.ev env with
  | .slice _ xs=>aQ (wid xs sz) <| aG (bX env xs.length hi) fun h=>aG (bX env 0 lo) fun l =>
   match mx with
   |none=>aQ (0<=h/\h<=xs.length/\0<=l/\l<=h) (some (.slice .sh ((xs.take h.toNat).drop l.toNat),M))
   |some m=>match m.ev env with
    | .int _ m=>aQ (0<=m/\m<=xs.length/\0<=h/\h<=m/\0<=l/\l<=h)
      (rn (m==0) (some (.slice .c0 [],M)) (some (.slice .sh ((xs.take h.toNat).drop l.toNat),M)))
    |_=>none
  | .aW id v sz' al ah=>aQ (sz'=sz) <| aG (bX env (ah-al) hi) fun h=>aG (bX env 0 lo) fun l =>
   match mx with
   |none=>aQ (0<=h/\h<=(ah-al:Nat)/\0<=l/\l<=h) (rn (l==h) (some (.slice .sh [],M)) (some (.aW id v sz (al+l.toNat) (al+h.toNat),M)))
   |some m=>match m.ev env with
    | .int _ m=>aQ (0<=m/\m<=(ah-al:Nat)/\0<=h/\h<=m/\0<=l/\l<=h)
      (rn (m==0) (some (.slice .c0 [],M)) (rn (l==h) (some (.slice .sh [],M)) (some (.aW id v sz (al+l.toNat) (al+h.toNat),M))))
    |_=>none
  |_=>none
 | .du off x=>match x.ev env with
  | .ptr id o=>some (.ptr id (o+off),M)
  | .dq cs=>some (.dq (cs.drop off),M)
  | .dk id v i o=>some (.dk id v i (o+off),M)
  |_=>none
 | .tC off n x=>match x.ev env with
  | .agg cs=>if off+n<=cs.length then some (.agg ((cs.drop off).take n),M) else none
  |_=>none
 | .tz off x=>match x.ev env with
  | .agg cs=>aG (nth cs off) fun c=>some (c,M)
  |_=>none
 | .mY sz x i =>
  match x.ev env,i.ev env with
  | .slice _ xs,.int _ n=>aQ (0<=n) (aG (xs[n.toNat]?) fun e=>if e.cells.length=sz then some (.dq e.cells,M) else none)
  | .aW id v sz' lo hi,.int _ n=>aQ (0<=n/\n<(hi-lo:Nat)/\sz'=sz) (some (.dk id v (lo+n.toNat) 0,M))
  |_,_=>none
 | .oS n sz x i =>
  match x.ev env,i.ev env with
  | .dq cs,.int _ m=>aQ (0<=m/\m<n/\n*sz<=cs.length) (some (.dq (cs.drop (m.toNat*sz)),M))
  | .ptr id off,.int _ m=>aQ (0<=m/\m<n) (some (.ptr id (off+m.toNat*sz),M))
  |_,_=>none
 | .oT x i =>
  match x.ev env,i.ev env with
  | .str s,.int _ n=>aQ (0<=n) (aG (s[n.toNat]?) fun b=>some (.int .u8 b.toNat,M))
  |_,_=>none
 | .extract x i=>match x.ev env with | .tuple vs=>aG (nth vs i) fun v=>some (v,M)|_=>none
 | .call f args=>ar call f (args.map fun x=>(x.ev env).cu) M
 | .uC f args=>call f (args.map (cR.ev env)) M
 | .eE f args=>ar call f (args.map fun x=>((x.ev env).ot M).cu) (kC M ((args.map (cR.ev env)).flatMap ae.ids))
 | .nW f args=>ud call f (args.map fun x=>(x.ev env).cu) M
 | .tp sz zero x=>match x.ev env with
  | .slice _ xs=>match xs with|[]=>some (.any,M)|_=>none
  | .aW id ver sz' lo hi=>match nth M id with
   |some (.arr sz0 v xs)=>if v=ver/\sz'=sz/\zero.length=sz/\zero.all ae.plainCell=true then some (.any,dA M id (.arr sz0 ver (xs.take lo++(List.replicate (hi-lo) (.agg zero)++xs.drop hi)))) else none
   |_=>none
  |_=>none
 | .nY f args=>match f.ev env with
  | .func g caps=>ar call g ((args.map fun x=>(x.ev env).cu)++caps) M
  | .iM g fs=>ar call g (fs++args.map fun x=>(x.ev env).cu) M
  | .raw v=>match v with
   | .func (.func g) ⟨[]⟩ ⟨[]⟩=>ar call g (args.map fun x=>(x.ev env).cu) M
   |_=>none
  |_=>none
 | .Hn x=>match x.ev env with | .str s=>some (.int .i64 s.length,M)|_=>none
 | .wJ x=>match x.ev env with
  | .slice _ xs=>some (.int .i64 xs.length,M)
  | .aW _ _ _ lo hi=>some (.int .i64 (hi-lo:Nat),M)
  |_=>none
 | .append sz bytes x y =>
  match x.ev env,y.ev env with
  | .slice tk xs,.slice _ ys =>
   aQ (aP (xs.length+ys.length) bytes/\wid xs sz/\wid ys sz) (
    match tk with
    | .c0=>match xs with|[]=>some (.slice (.own M.length) ys,M++[.tick sz ys.length])|_=>none
    | .own k=>match nth M k with
     |some (.tick sz' n)=>aQ (sz'=sz/\n=xs.length) (some (.slice (.own k) (xs++ys),dA M k (.tick sz (xs.length+ys.length))))
     |_=>none
    | .sh=>none)
  | .aW id ver sz' lo hi,.slice _ ys=>match nth M id with
   |some (.arr sz0 v xs)=>aQ (v=ver/\sz'=sz/\lo=0/\hi=xs.length/\aP (xs.length+ys.length) bytes/\wid xs sz/\wid ys sz/\0<ys.length)
     (some (.aW id (ver+1) sz 0 (xs.length+ys.length),dA M id (.arr sz0 (ver+1) (xs++ys))))
   |_=>none
  |_,_=>none
 | .rm mx x y=>match x.ev env,y.ev env with
  | .int k a,.int _ b=>some (.int k (match mx with|true=>if b>a then b else a|false=>if b<a then b else a),M)
  |_,_=>none
 | .b2s x=>match x.ev env with | .slice _ xs=>aG (bytesOf xs) fun l=>some (.str l,M)|_=>none
 | .mkMap=>some (.cU M.length,M++[.map [] []])
 | .look fk zero ok m k=>aG (mapOf M (m.ev env)) fun e=>aG (tU fk (k.ev env) e.1 e.2) fun r=>some (jk zero ok r,M)
 | .cH fk m k v=>match m.ev env with
  | .cU id=>match nth M id with
   |some (.map ks vs)=>aG (tV fk (k.ev env) (v.ev env) ks vs) fun e=>some (.any,dA M id (.map e.1 e.2))
   |_=>none
  |_=>none
 | .Hm m=>aG (mapOf M (m.ev env)) fun e=>some (.int .i64 e.1.length,M)
 | .HT x=>match x.ev env with | .str s=>some (.dD M.length,M++[.fI s 0])|_=>none
 | .yB it=>match it.ev env with
  | .dD id=>match nth M id with
   |some (.fI s pos)=>rn (decide (pos<s.length))
     (some (.tuple [.bool true,.int .i64 pos,.int .i32 (Utf8.decode ⟨s.toArray⟩ pos).1],dA M id (.fI s (pos+(Utf8.decode ⟨s.toArray⟩ pos).2))))
     (some (.tuple [.bool false],M))
   |_=>none
  |_=>none
 | .Y0 zero n=>match n.ev env with
  | .int _ k=>aQ (0<=k/\aP k.toNat (8*zero.length)/\zero.all ae.plainCell=true) (some (.slice .sh (List.replicate k.toNat (ae.agg zero).norm),M))
  |_=>none
 | .Hw zero n=>match n.ev env with
  | .int _ k=>aQ (0<=k/\aP k.toNat (8*zero.length)/\zero.all ae.plainCell=true) (some (.aW M.length 0 zero.length 0 k.toNat,M++[.arr zero.length 0 (List.replicate k.toNat (ae.agg zero).norm)]))
  |_=>none
 | .pr sz bytes zero x n =>
  match x.ev env,n.ev env with
  | .slice .c0 [],.int _ k=>aQ (0<=k/\aP k.toNat bytes/\zero.length=sz/\zero.all ae.plainCell=true)
    (rn (k==0) (some (.slice .c0 [],M)) (some (.aW M.length 0 sz 0 k.toNat,M++[.arr sz 0 (List.replicate k.toNat (ae.agg zero).norm)])))
  | .aW id ver sz' lo hi,.int _ k=>match nth M id with
   |some (.arr sz0 v xs)=>aQ (v=ver/\sz'=sz/\lo=0/\hi=xs.length/\0<=k/\aP (xs.length+k.toNat) bytes/\zero.length=sz/\zero.all ae.plainCell=true/\0<xs.length)
     (rn (k==0) (some (.aW id ver sz' lo hi,M)) (some (.aW id (ver+1) sz 0 (xs.length+k.toNat),dA M id (.arr sz0 (ver+1) (xs++List.replicate k.toNat (ae.agg zero).norm)))))
   |_=>none
  |_,_=>none
 | .nD sz bytes x y =>
  match x.ev env,y.ev env with
  | .slice .c0 [],.slice _ ys=>aQ (aP ys.length bytes/\wid ys sz) (some (.aW M.length 0 sz 0 ys.length,M++[.arr sz 0 ys]))
  |_,_=>none
 | .xU sz x y =>
  match x.ev env,y.ev env with
  | .slice .sh [],.slice _ ys=>aQ (wid ys sz) (some (.int .i64 0,M))
  | .aW id ver sz' lo hi,.slice _ ys=>match nth M id with
   |some (.arr sz0 v xs)=>aQ (v=ver/\sz'=sz/\wid ys sz/\0<xs.length)
     (some (.int .i64 (min ys.length (hi-lo):Nat),dA M id (.arr sz0 ver (xs.take lo++(ys.take (min ys.length (hi-lo))++xs.drop (lo+min ys.length (hi-lo)))))))
   |_=>none
  |_,_=>none
 | .Gv sz=>some (.ptr (M.length+1) 0,M++[.arr sz 0 [],.cells [.aW M.length 0 sz 0 0]])
 | .iface t x=>match x.ev env with
  | .ptr id off=>some (.dU t id off,M)
  |y=>aG (valOf y) fun v=>some (.raw (.iface t v),M)
 | .raise x=>match x.ev env with
  | .raw v=>match v with
   | .iface t u=>some (.fQ (.iface t u),M)
   |_=>none
  |_=>none
def iv(env:Env)(dst:Option Nat)(v:ae):Env :=
 match dst with
 |some d=>(d,v)::env
 |none=>env
def eu.bA(env:Env):eu->List Nat
 | .call _ args=>(args.map fun x=>(x.ev env).cu).flatMap ae.ids
 | .nY f args=>match f.ev env with
  | .func _ caps=>((args.map fun x=>(x.ev env).cu)++caps).flatMap ae.ids
  | .iM _ fs=>(fs++args.map fun x=>(x.ev env).cu).flatMap ae.ids
  | .raw v=>match v with
   | .func (.func _) ⟨[]⟩ ⟨[]⟩=>(args.map fun x=>(x.ev env).cu).flatMap ae.ids
   |_=>[]
  |_=>[]
 |_=>[]
def pb(env:Env)(M M':aj):List Nat->Prop
 | []=>True
 |z::r=>(match dg env z with
  | .ptr id _=>nth M' id=nth M id
  |_=>False)/\pb env M M' r
noncomputable def ga(call:bL)(o:aX)(env:Env)(M:aj):Option (ae×aj) :=
 match o.oh with
 |true=>aQ (o.op.bA env=[]) (bC call env M o.op)
 |false=>match o.grow with
  |false=>bC call env M o.op
  |true=>aG (bC call env M o.op) fun x=>aQ (M <+: x.2\/(o.sep≠[]/\pb env M x.2 o.sep)) (some x)
structure Out where
 e:Ue
 env:Env
 mem:aj
def uT(c:Bool)(x:ae×aj)(k:Option Out):Option Out:=match x.1 with
 | .fQ v=>match c with
  |true=>some ⟨.fQ v,[],x.2⟩
  |false=>none
 |_=>k
def aX.lets(o:aX):Bool:=o.op.I0&&o.stop
noncomputable def cm(call:bL):List aX->Env->aj->Option Out
 | [],env,M=>some ⟨.normal,env,M⟩
 |o::r,env,M =>
  match o.guard with
  |none=>aG (ga call o env M) fun x=>uT o.lets x (cm call r (iv env o.dst x.1) x.2)
  |some (t,want)=>match dg env t with
   | .bool b=>rn (b==want) (aG (ga call o env M) fun x=>uT o.lets x (cm call r (iv env o.dst x.1) x.2))
    (cm call r (iv env o.dst (.tuple [])) M)
   | .tuple []=>cm call r (iv env o.dst (.tuple [])) M
   |_=>none
def fj(env:Env)(live:List Nat):Env:=live.map fun t=>(t,dg env t)
def Out.jc(live:List Nat)(o:Out):Out:=match o.e with
 | .normal=>⟨.normal,fj o.env live,o.mem⟩
 |_=>o
open Classical in
noncomputable def lim{α:Type}(F:Nat->Option α):Option α:=if h:∃n,(F n).isSome=true then F (Classical.choose h) else none
def mG(o:Out)(k:Env->aj->Option Out):Option Out:=match o.e with
 | .normal=>k o.env o.mem
 |_=>some o
def oj(id:Nat)(o:Out):Out:=match o.e with
 | .exit i=>if i=id then ⟨.normal,o.env,o.mem⟩ else o
 |_=>o
def iter(f:Env->aj->Option Out)(live:List Nat):Nat->Env->aj->Option Out
 |0,_,_=>none
 |n+1,env,M=>aG (f (fj env live) M) fun o=>mG o fun e m=>iter f live n (rJ M.length m (fj e live)) (fh M.length m)
noncomputable def bQ(call:bL):aO->Env->aj->Option Out
 | .skip,env,M=>some ⟨.normal,env,M⟩
 | .region ops _ live,env,M=>aG (cm call ops env M) fun o=>some (o.jc live)
 | .seq a b,env,M=>aG (bQ call a env M) fun o=>mG o (bQ call b)
 | .cond c x y,env,M=>match c.ev env with
  | .bool t=>rn t (bQ call x env M) (bQ call y env M)
  |_=>none
 | .block id c,env,M=>aG (bQ call c env M) fun o=>some (oj id o)
 | .loop live c,env,M=>lim fun n=>iter (bQ call c) live n env M
 | .exit id,env,M=>some ⟨.exit id,env,M⟩
 | .ret,env,M=>some ⟨.ret,env,M⟩
inductive km where
 |tmp (t:Nat)
 |bl (t n:Nat)
 |Ur (t:Nat)
structure bD where
 nparams:Nat
 results:List km
 body:aO
def w9(env:Env)(M:aj):km->Option ae
 | .tmp t=>some (dg env t)
 | .bl t n=>match dg env t with
  | .ptr id off=>match nth M id with
   |some (.cells cs)=>if off+n<=cs.length then some (.agg ((cs.drop off).take n)) else none
   |_=>none
  |_=>none
 | .Ur t=>match dg env t with
  | .ptr id off=>match nth M id with
   |some (.cells cs)=>nth cs off
   |_=>none
  |_=>none
def ki(env:Env)(M:aj):List km->Option (List ae)
 | []=>some []
 |r::rs=>aG (w9 env M r) fun v=>aG (ki env M rs) fun l=>some (v::l)
def one:List ae->ae
 | [v]=>v
 |l => .tuple l
def bW:Nat->List ae->Env
 |_,[]=>[]
 |i,v::r=>(i,v)::bW (i+1) r
def finish(res:List km)(base:Nat)(o:Out):Option (ae×aj) :=
 match o.e with
 | .exit _=>none
 | .fQ v=>some (.fQ v,fh base o.mem)
 |_=>aG (ki o.env o.mem res) fun l=>some ((one l).fC base o.mem,fh base o.mem)
structure rD where
 code:Nat->Option bD
 fZ:Nat->Option (List ae->aj->Option (ae×aj))
noncomputable def dN(T:rD):Nat->bL
 |0,f,args,M=>match T.fZ f with
  |some g=>g args M
  |none=>none
 |n+1,f,args,M=>match T.fZ f with
  |some g=>g args M
  |none=>match T.code f with
   |none=>none
   |some fn=>if args.length=fn.nparams then aG (bQ (dN T n) fn.body (bW 0 args) M) (finish fn.results M.length) else none
noncomputable def ag(T:rD):bL:=fun f args M=>lim fun n=>dN T n f args M
def gV{α:Type}{F:Nat->Option α}(hm:∀n x,F n=some x->F (n+1)=some x){n:Nat}{x:α}(h:F n=some x):lim F=some x:=by
 have up:∀k n x,F n=some x->F (n+k)=some x:=by
  intro k;induction k with
  |zero=>intro n x h; exact h
  |succ k ih=>intro n x h; exact hm _ _ (ih n x h)
 unfold lim;have hex:∃n,(F n).isSome=true:=⟨n,by simp[h]⟩
 rw[dif_pos hex];have hc:=Classical.choose_spec hex;generalize Classical.choose hex=m at *;obtain⟨y,hy⟩:=Option.isSome_iff_exists.1 hc;rcases Nat.le_total n m with hle|hle
 ·have:=up (m-n) n x h;rw[show n+(m-n)=m by omega] at this
  exact this
 ·have:=up (n-m) m y hy;rw[show m+(n-m)=n by omega,h] at this
  rw[hy,this]
def nM{α:Type}{F:Nat->Option α}{x:α}(h:lim F=some x):∃n,F n=some x:=by
 unfold lim at h;split at h
 ·exact⟨_,h⟩
 ·cases h
def nC(C C':bL):Prop:=∀f a M x,C f a M=some x->C' f a M=some x
def az{α β:Type}{x:Option α}{f:α->Option β}{y:β}(h:aG x f=some y):∃a,x=some a/\f a=some y:=by
 cases x with
 |none=>cases h
 |some a=>exact⟨a,rfl,h⟩
def dW{α:Type}{b:Bool}{x y:Option α}{z:α}(h:rn b x y=some z):(b=true/\x=some z)\/(b=false/\y=some z):=by
 cases b
 ·exact .inr ⟨rfl,h⟩
 ·exact .inl ⟨rfl,h⟩
def bd{α:Type}{p:Prop}{x:Option α}{z:α}(h:aQ p x=some z):p/\x=some z:=by
 unfold aQ at h;split at h
 ·exact⟨by assumption,h⟩
 ·cases h
def gS{C:bL}{f:Nat}{vs:List ae}{M:aj}{x:ae×aj}(h:ar C f vs M=some x) :
  ∃a B y,C f a B=some y/\∀C':bL,C' f a B=some y->ar C' f vs M=some x:=by
 unfold ar at h;split at h
 ·rename_i hf;obtain⟨B,hB,h⟩:=az h;split at h
  ·rename_i hc;obtain⟨y,hy,h⟩:=az h;refine⟨_,B,y,hy,fun C' hC'=>?_⟩
   unfold ar;rw[if_pos hf,hB];simp only[aI];rw[if_pos hc,hC'];exact h
  ·cases h
 ·cases h
def EF{C:bL}{env:Env}{M:aj}{o:eu}{x:ae×aj}(h:bC C env M o=some x) :
  (∀C':bL,bC C' env M o=some x)\/∃f a B y,C f a B=some y/\∀C':bL,C' f a B=some y->bC C' env M o=some x:=by
 cases o
 case call f args =>
  simp only[bC] at h ⊢;obtain⟨a,B,y,h1,h2⟩:=gS h;exact .inr ⟨f,a,B,y,h1,h2⟩
 case nW f args =>
  simp only[bC] at h ⊢;unfold ud at h;split at h
  ·rename_i hc;obtain⟨y,hy,h⟩:=az h;refine .inr ⟨f,_,[],y,hy,fun C' hC'=>?_⟩
   unfold ud;rw[if_pos hc,hC'];exact h
  ·cases h
 case uC f args=>exact .inr ⟨f,_,_,_,h,fun _ h'=>h'⟩
 case eE f args =>
  simp only[bC] at h ⊢;obtain⟨a,B,y,h1,h2⟩:=gS h;exact .inr ⟨f,a,B,y,h1,h2⟩
 case nY f args =>
  simp only[bC] at h ⊢;split at h
  ·rename_i g caps hg;obtain⟨a,B,y,h1,h2⟩:=gS h;exact .inr ⟨g,a,B,y,h1,h2⟩
  ·rename_i g fs hg;obtain⟨a,B,y,h1,h2⟩:=gS h;exact .inr ⟨g,a,B,y,h1,h2⟩
  ·split at h
   ·obtain⟨a,B,y,h1,h2⟩:=gS h;exact .inr ⟨_,a,B,y,h1,h2⟩
   ·cases h
  ·cases h
 all_goals exact .inl fun _=>h
def vH{C C':bL}(hC:nC C C'){env:Env}{M:aj}{o:eu}{x:ae×aj}(h:bC C env M o=some x):bC C' env M o=some x:=by
 rcases EF h with h|⟨f,a,B,y,h1,h2⟩
 ·exact h C'
 ·exact h2 C' (hC _ _ _ _ h1)
def jD{C:bL}{o:aX}{env:Env}{M:aj}{x:ae×aj}(h:ga C o env M=some x) :
  (o.oh=true/\o.op.bA env=[]/\bC C env M o.op=some x)\/(o.oh=false/\o.grow=false/\bC C env M o.op=some x)\/(o.oh=false/\o.grow=true/\(M <+: x.2\/(o.sep≠[]/\pb env M x.2 o.sep))/\bC C env M o.op=some x):=by
 unfold ga at h;split at h
 ·obtain⟨h1,h2⟩:=bd h;exact .inl ⟨by assumption,h1,h2⟩
 ·split at h
  ·exact .inr (.inl ⟨by assumption,by assumption,h⟩)
  ·obtain⟨y,hy,h⟩:=az h;obtain⟨h1,h2⟩:=bd h;cases h2;exact .inr (.inr ⟨by assumption,by assumption,h1,hy⟩)
def vJ{C C':bL}(hC:nC C C'){env:Env}{M:aj}{o:aX}{x:ae×aj}(h:ga C o env M=some x):ga C' o env M=some x:=by
 rcases jD h with ⟨hn,hi,h1⟩|⟨hn,hg,h1⟩|⟨hn,hg,hp,h1⟩
 ·unfold ga; rw[hn,vH hC h1]; exact bo hi
 ·unfold ga; rw[hn,hg]; exact vH hC h1
 ·unfold ga; rw[hn,hg,vH hC h1]; exact bo hp
def zV{c:Bool}{x:ae×aj}{k:Option Out}{o:Out}(h:uT c x k=some o):(x.1.dJ=false/\k=some o)\/∃v,c=true/\x.1 = .fQ v/\o=⟨.fQ v,[],x.2⟩:=by
 obtain⟨x,M⟩:=x
 cases x<;>first
  |exact .inl ⟨rfl,h⟩
  |(cases c
    ·cases h
    ·injection h with h; exact .inr ⟨_,rfl,rfl,h.symm⟩)
def zW{c:Bool}{x:ae×aj}{k:Option Out}(h:x.1.dJ=false):uT c x k=k:=by
 obtain⟨x,M⟩:=x;cases x<;>first|rfl|cases h
def zX{c:Bool}{x:ae×aj}{k:Option Out}{v:Value}(hc:c=true)(h:x.1 = .fQ v):uT c x k=some ⟨.fQ v,[],x.2⟩:=by
 unfold uT; rw[h,hc]
def ia{C:bL}{o:aX}{r:List aX}{env:Env}{M:aj}{x:Out}(h:cm C (o::r) env M=some x) :
  (∃y,(∀t want,o.guard=some (t,want)->dg env t = .bool want)/\ga C o env M=some y/\((y.1.dJ=false/\cm C r (iv env o.dst y.1) y.2=some x)\/∃v,o.lets=true/\y.1 = .fQ v/\x=⟨.fQ v,[],y.2⟩)) \/
  (∃t want,o.guard=some (t,want)/\(dg env t = .bool (!want)\/dg env t = .tuple [])/\cm C r (iv env o.dst (.tuple [])) M=some x):=by
 unfold cm at h;split at h
 ·rename_i hg;obtain⟨y,hy,h⟩:=az h;exact .inl ⟨y,fun t want h'=>(by rw[hg] at h'; cases h'),hy,zV h⟩
 ·rename_i t want hg;split at h
  ·rename_i b hb;rcases dW h with ⟨h1,h2⟩|⟨h1,h2⟩
   ·obtain⟨y,hy,h2⟩:=az h2;refine .inl ⟨y,fun t' want' h'=>?_,hy,zV h2⟩
    rw[hg] at h';injection h' with h'
    injection h' with e1 e2
    subst e1; subst e2;rw[hb];have:b=want:=by simpa using h1
    rw[this]
   ·refine .inr ⟨t,want,hg,.inl ?_,h2⟩;rw[hb];cases b<;>cases want<;>simp_all
  ·rename_i hb;exact .inr ⟨t,want,hg,.inr hb,h⟩
  ·cases h
def jC{C:bL}{o:aX}{r:List aX}{env:Env}{M:aj}{y:ae×aj}(hg:∀t want,o.guard=some (t,want)->dg env t = .bool want)
  (hy:ga C o env M=some y):cm C (o::r) env M=uT o.lets y (cm C r (iv env o.dst y.1) y.2):=by
 rw[cm];split
 ·rw[hy]; rfl
 ·rename_i t want h;rw[hg t want h,hy];simp
def nV{C:bL}{o:aX}{r:List aX}{env:Env}{M:aj}{t:Nat}{want:Bool}(hg:o.guard=some (t,want))
  (hb:dg env t = .bool (!want)\/dg env t = .tuple []):cm C (o::r) env M=cm C r (iv env o.dst (.tuple [])) M:=by
 rw[cm];simp only[hg];rcases hb with hb|hb
 ·rw[hb]; cases want<;>simp
 ·rw[hb]
def kx{C C':bL}(hC:nC C C'):∀ {ops:List aX} {env:Env} {M:aj} {x:Out},cm C ops env M=some x->cm C' ops env M=some x
 | [],_,_,_,h=>h
 |o::r,env,M,x,h=>by
  rcases ia h with ⟨y,h1,h2,h3⟩|⟨t,want,h1,h2,h3⟩
  ·rw[jC h1 (vJ hC h2)];rcases h3 with ⟨h3,h4⟩|⟨v,h0,h3,rfl⟩
   ·rw[zW h3]; exact kx hC h4
   ·exact zX h0 h3
  ·rw[nV h1 h2]; exact kx hC h3
def lu{o:Out}{k:Env->aj->Option Out}{x:Out}(h:mG o k=some x):(o.e = .normal/\k o.env o.mem=some x)\/(o.e ≠ .normal/\x=o):=by
 unfold mG at h;split at h
 ·exact .inl ⟨by assumption,h⟩
 ·rename_i hn;injection h with h
  exact .inr ⟨hn,h.symm⟩
def mc{o:Out}{k:Env->aj->Option Out}(h:o.e = .normal):mG o k=k o.env o.mem:=by unfold mG; rw[h]
def rX{o:Out}{k:Env->aj->Option Out}(h:o.e ≠ .normal):mG o k=some o:=by
 unfold mG;split
 ·rename_i h'; exact absurd h' h
 ·rfl
def mX{o:Out}{k k':Env->aj->Option Out}{x:Out}(hk:∀env M x,k env M=some x->k' env M=some x)(h:mG o k=some x):mG o k'=some x:=by
 rcases lu h with ⟨h1,h2⟩|⟨h1,h2⟩
 ·rw[mc h1]; exact hk _ _ _ h2
 ·rw[rX h1,h2]
def pG{f g:Env->aj->Option Out}(hfg:∀env M x,f env M=some x->g env M=some x)(live:List Nat):∀n {env M x},iter f live n env M=some x->iter g live n env M=some x
 |0,_,_,_,h=>h
 |n+1,env,M,x,h=>by
  rw[iter] at *;obtain⟨a,ha,h⟩:=az h;rw[hfg _ _ _ ha];exact mX (fun env M x h=>pG hfg live n h) h
def nL{f:Env->aj->Option Out}(live:List Nat):∀n {env M x},iter f live n env M=some x->iter f live (n+1) env M=some x
 |0,_,_,_,h=>by cases h
 |n+1,env,M,x,h=>by
  rw[iter] at h ⊢;obtain⟨a,ha,h⟩:=az h;rw[ha];exact mX (fun env M x h=>nL live n h) h
def dV{C C':bL}(hC:nC C C'):∀(c:aO){env:Env}{M:aj}{x:Out},bQ C c env M=some x->bQ C' c env M=some x
 | .skip,_,_,_,h=>h
 | .exit _,_,_,_,h=>h
 | .ret,_,_,_,h=>h
 | .region ops d live,env,M,x,h=>by
  simp only[bQ] at *;obtain⟨a,ha,h⟩:=az h;rw[kx hC ha]; exact h
 | .seq a b,env,M,x,h=>by
  simp only[bQ] at *;obtain⟨o,ho,h⟩:=az h;rw[dV hC a ho];exact mX (fun env M x=>dV hC b) h
 | .cond c a b,env,M,x,h=>by
  simp only[bQ] at *;split
  ·rename_i t ht;simp only[ht] at h;rcases dW h with ⟨rfl,h⟩|⟨rfl,h⟩
   ·exact dV hC a h
   ·exact dV hC b h
  ·rename_i ht;split at h
   ·rename_i t ht'; exact absurd ht' (ht t)
   ·cases h
 | .block id c,env,M,x,h=>by
  simp only[bQ] at *;obtain⟨o,ho,h⟩:=az h;rw[dV hC c ho]; exact h
 | .loop live c,env,M,x,h=>by
  simp only[bQ] at *;obtain⟨n,hn⟩:=nM h;exact gV (fun n x=>nL live n) (pG (fun env M x=>dV hC c) live n hn)
def jA(T:rD):∀n,nC (dN T n) (dN T (n+1))
 |0,f,a,M,x,h=>by
  unfold dN at *;split
  ·rename_i g hg; simp only[hg] at h; exact h
  ·rename_i hg; simp only[hg] at h; cases h
 |n+1,f,a,M,x,h=>by
  rw[dN] at h ⊢;split
  ·rename_i g hg; simp only[hg] at h; exact h
  ·rename_i hg;simp only[hg] at h;split
   ·rename_i hf; simp only[hf] at h; cases h
   ·rename_i fn hf;simp only[hf] at h;split
    ·rename_i hl;rw[if_pos hl] at h;obtain⟨o,ho,h⟩:=az h;rw[dV (jA T n) _ ho];exact h
    ·rename_i hl; rw[if_neg hl] at h; cases h
def kR(T:rD){n m:Nat}(h:n<=m):nC (dN T n) (dN T m):=by
 obtain⟨k,rfl⟩:=Nat.exists_eq_add_of_le h;induction k with
 |zero=>exact fun _ _ _ _ h=>h
 |succ k ih=>exact fun f a M x hx=>jA T (n+k) f a M x (ih (by omega) f a M x hx)
def Da(T:rD){env:Env}{M:aj}{o:aX}{x:ae×aj}(h:ga (ag T) o env M=some x):∃n,ga (dN T n) o env M=some x:=by
 have key:∀y,bC (ag T) env M o.op=some y->∃n,bC (dN T n) env M o.op=some y:=by
  intro y hy;rcases EF hy with h|⟨f,a,B,z,h1,h2⟩
  ·exact⟨0,h _⟩
  ·obtain⟨n,hn⟩:=nM h1;exact⟨n,h2 _ hn⟩
 rcases jD h with ⟨hn,hi,h1⟩|⟨hn,hg,h1⟩|⟨hn,hg,hp,h1⟩<;>obtain⟨n,h2⟩:=key _ h1
 ·exact⟨n,by unfold ga; rw[hn,h2]; exact bo hi⟩
 ·exact⟨n,by unfold ga; rw[hn,hg]; exact h2⟩
 ·exact⟨n,by unfold ga; rw[hn,hg,h2]; exact bo hp⟩
def nF(T:rD):∀ {ops:List aX} {env:Env} {M:aj} {x:Out},cm (ag T) ops env M=some x->∃n,cm (dN T n) ops env M=some x
 | [],_,_,_,h=>⟨0,h⟩
 |o::r,env,M,x,h=>by
  rcases ia h with ⟨y,h1,h2,h3⟩|⟨t,want,h1,h2,h3⟩
  ·obtain⟨n,hn⟩:=Da T h2;rcases h3 with ⟨h3,h4⟩|⟨v,h0,h3,rfl⟩
   ·obtain⟨m,hm⟩:=nF T h4;refine⟨max n m,?_⟩;rw[jC h1 (vJ (kR T (Nat.le_max_left n m)) hn),zW h3];exact kx (kR T (Nat.le_max_right n m)) hm
   ·exact⟨n,by rw[jC h1 hn]; exact zX h0 h3⟩
  ·obtain⟨m,hm⟩:=nF T h3;exact⟨m,by rw[nV h1 h2]; exact hm⟩
def iJ(T:rD):∀(c:aO){env:Env}{M:aj}{x:Out},bQ (ag T) c env M=some x->∃n,bQ (dN T n) c env M=some x
 | .skip,_,_,_,h=>⟨0,h⟩
 | .exit _,_,_,_,h=>⟨0,h⟩
 | .ret,_,_,_,h=>⟨0,h⟩
 | .region ops d live,env,M,x,h=>by
  simp only[bQ] at *;obtain⟨a,ha,h⟩:=az h;obtain⟨n,hn⟩:=nF T ha;exact⟨n,by rw[hn]; exact h⟩
 | .seq a b,env,M,x,h=>by
  simp only[bQ] at *;obtain⟨o,ho,h⟩:=az h;obtain⟨n,hn⟩:=iJ T a ho;rcases lu h with ⟨h1,h2⟩|⟨h1,h2⟩
  ·obtain⟨m,hm⟩:=iJ T b h2;refine⟨max n m,?_⟩;rw[dV (kR T (Nat.le_max_left n m)) a hn,aI,mc h1];exact dV (kR T (Nat.le_max_right n m)) b hm
  ·exact⟨n,by rw[hn,aI,rX h1,h2]⟩
 | .cond c a b,env,M,x,h=>by
  simp only[bQ] at *;split at h
  ·rename_i t ht;rcases dW h with ⟨rfl,h⟩|⟨rfl,h⟩
   ·obtain⟨n,hn⟩:=iJ T a h; exact⟨n,hn⟩
   ·obtain⟨n,hn⟩:=iJ T b h; exact⟨n,hn⟩
  ·cases h
 | .block id c,env,M,x,h=>by
  simp only[bQ] at *;obtain⟨o,ho,h⟩:=az h;obtain⟨n,hn⟩:=iJ T c ho;exact⟨n,by rw[hn]; exact h⟩
 | .loop live c,env,M,x,h=>by
  simp only[bQ] at *;obtain⟨k,hk⟩:=nM h
  have:∀k env M,iter (bQ (ag T) c) live k env M=some x->∃n,iter (bQ (dN T n) c) live k env M=some x:=by
   intro k;induction k with
   |zero=>intro env M h; cases h
   |succ k ih =>
    intro env M h;rw[iter] at h;obtain⟨a,ha,h⟩:=az h;obtain⟨n,hn⟩:=iJ T c ha;rcases lu h with ⟨h1,h2⟩|⟨h1,h2⟩
    ·obtain⟨m,hm⟩:=ih _ _ h2;refine⟨max n m,?_⟩;rw[iter,dV (kR T (Nat.le_max_left n m)) c hn,aI,mc h1];exact pG (fun env M x=>dV (kR T (Nat.le_max_right n m)) c) live k hm
    ·exact⟨n,by rw[iter,hn,aI,rX h1,h2]⟩
  obtain⟨n,hn⟩:=this k env M hk;exact⟨n,gV (fun n x=>nL live n) hn⟩
def C6(C:bL)(live:List Nat)(c:aO)(env:Env)(M:aj) :
  bQ C (.loop live c) env M=aG (bQ C c (fj env live) M) fun o=>mG o fun e m=>bQ C (.loop live c) (rJ M.length m (fj e live)) (fh M.length m):=by
 apply Option.ext;intro x;constructor
 ·intro h;obtain⟨n,hn⟩:=nM (show lim (fun n=>iter (bQ C c) live n env M)=some x from h)
  cases n with
  |zero=>cases hn
  |succ n =>
   rw[iter] at hn;obtain⟨o,ho,hn⟩:=az hn;rw[ho,aI];exact mX (fun env M x hx=>gV (fun n x=>nL live n) hx) hn
 ·intro h;obtain⟨o,ho,h⟩:=az h;rcases lu h with ⟨h1,h2⟩|⟨h1,h2⟩
  ·obtain⟨n,hn⟩:=nM (show lim (fun n=>iter (bQ C c) live n (rJ M.length o.mem (fj o.env live)) (fh M.length o.mem))=some x from h2)
   refine gV (F:=fun n=>iter (bQ C c) live n env M) (n:=n+1) (fun n x=>nL live n) ?_
   show iter (bQ C c) live (n+1) env M=some x
   rw[iter,ho,aI,mc h1];exact hn
  ·refine gV (F:=fun n=>iter (bQ C c) live n env M) (n:=1) (fun n x=>nL live n) ?_
   show iter (bQ C c) live 1 env M=some x
   rw[iter,ho,aI,rX h1,h2]
def C4{T:rD}{f:Nat}{fn:bD}{args:List ae}{M:aj}{x:ae×aj}(hp:T.fZ f=none)(hc:T.code f=some fn)(hl:args.length=fn.nparams)
  (h:aG (bQ (ag T) fn.body (bW 0 args) M) (finish fn.results M.length)=some x):ag T f args M=some x:=by
 obtain⟨o,hb,hf⟩:=az h;obtain⟨n,hn⟩:=iJ T fn.body hb;refine gV (n:=n+1) (fun n x h=>jA T n f args M x h) ?_
 rw[dN];simp only[hp,hc,if_pos hl,hn,aI];exact hf
def bR{T:rD}{f:Nat}{g:List ae->aj->Option (ae×aj)}{args:List ae}{M:aj}{x:ae×aj}(hp:T.fZ f=some g)(hg:g args M=some x):ag T f args M=some x:=by
 refine gV (n:=0) (fun n x h=>jA T n f args M x h) ?_
 rw[dN];simp only[hp,hg]
inductive K where
 |seq (c:aO)
 |block (id:Nat)
 |loop (live:List Nat) (n:Nat) (c:aO)
noncomputable def kr(C:bL)(fn:List km)(base:Nat):List K->Out->Option (ae×aj)
 | [],o=>finish fn base o
 | .seq c::k,o=>aG (mG o (bQ C c)) (kr C fn base k)
 | .block id::k,o=>kr C fn base k (oj id o)
 | .loop live n c::k,o=>aG (mG o fun e m=>bQ C (.loop live c) (rJ n m (fj e live)) (fh n m)) (kr C fn base k)
noncomputable def bS(C:bL)(fn:List km)(base:Nat)(k:List K)(c:aO)(env:Env)(M:aj):Option (ae×aj):=aG (bQ C c env M) (kr C fn base k)
noncomputable def cz(C:bL)(fn:List km)(base:Nat)(k:List K)(live:List Nat)(ops:List aX)(env:Env)(M:aj):Option (ae×aj) :=
 aG (cm C ops env M) fun o=>kr C fn base k (o.jc live)
noncomputable def fu(C:bL)(fn:List km)(base:Nat)(k:List K)(live:List Nat)(c:Bool)(dst:Option Nat)(r:List aX)(env:Env)(y:Option (ae×aj)):Option (ae×aj) :=
 aG y fun x=>aG (uT c x (cm C r (iv env dst x.1) x.2)) fun o=>kr C fn base k (o.jc live)
noncomputable def gK(C:bL)(fn:List km)(base:Nat)(k:List K)(live:List Nat)(g:ae)(want:Bool)(o:aX)(r:List aX)(env:Env)(M:aj):Option (ae×aj) :=
 match g with
 | .bool b=>rn (b==want) (fu C fn base k live o.lets o.dst r env (ga C o env M)) (cz C fn base k live r (iv env o.dst (.tuple [])) M)
 | .tuple []=>cz C fn base k live r (iv env o.dst (.tuple [])) M
 |_=>none
noncomputable def bG(C:bL)(fn:List km)(base:Nat)(k:List K)(v:ae)(x y:aO)(env:Env)(M:aj):Option (ae×aj) :=
 match v with
 | .bool t=>rn t (bS C fn base k x env M) (bS C fn base k y env M)
 |_=>none
def iV{α β γ:Type}(x:Option α)(f:α->Option β)(g:β->Option γ):aG (aG x f) g=aG x fun a=>aG (f a) g:=by cases x<;>rfl
section
variable (C:bL) (fn:List km) (base:Nat) (k:List K) (env:Env) (M:aj)
def Jl:bS C fn base k .skip env M=kr C fn base k ⟨.normal,env,M⟩:=rfl
def Jk(id:Nat):bS C fn base k (.exit id) env M=kr C fn base k ⟨.exit id,env,M⟩:=rfl
def Rs:bS C fn base k .ret env M=kr C fn base k ⟨.ret,env,M⟩:=rfl
def Ru(a b:aO):bS C fn base k (.seq a b) env M=bS C fn base (.seq b::k) a env M:=by
 unfold bS;rw[bQ,iV];rfl
def GV(id:Nat)(c:aO):bS C fn base k (.block id c) env M=bS C fn base (.block id::k) c env M:=by
 unfold bS;rw[bQ,iV];rfl
def Jj(c:cR)(x y:aO):bS C fn base k (.cond c x y) env M=bG C fn base k (c.ev env) x y env M:=by
 unfold bS bG;rw[bQ];cases c.ev env<;>simp[bS]
def DL(ops:List aX)(d:Bool)(live:List Nat):bS C fn base k (.region ops d live) env M=cz C fn base k live ops env M:=by
 unfold bS cz;rw[bQ,iV];rfl
def aC(live:List Nat)(c:aO):bS C fn base k (.loop live c) env M=bS C fn base (.loop live M.length c::k) c (fj env live) M:=by
 unfold bS;rw[C6,iV];rfl
def Pp(live:List Nat):cz C fn base k live [] env M=kr C fn base k ⟨.normal,fj env live,M⟩:=rfl
def HK(live:List Nat)(d:Option Nat)(op:eu)(g m:Bool)(s:List Nat)(st:Bool)(r:List aX) :
  cz C fn base k live (⟨d,op,none,g,m,s,st⟩::r) env M=fu C fn base k live (aX.lets ⟨d,op,none,g,m,s,st⟩) d r env (ga C ⟨d,op,none,g,m,s,st⟩ env M):=by
 unfold cz fu;rw[cm,iV]
def HL(live:List Nat)(d:Option Nat)(op:eu)(t:Nat)(w g m:Bool)(s:List Nat)(st:Bool)(r:List aX) :
  cz C fn base k live (⟨d,op,some (t,w),g,m,s,st⟩::r) env M=gK C fn base k live (dg env t) w ⟨d,op,some (t,w),g,m,s,st⟩ r env M:=by
 unfold cz gK;rw[cm];simp only;generalize dg env t=v;split
 ·rw[Hz,iV]; rfl
 ·rfl
 ·rename_i h1 h2
  first
   |rfl
   |(split
     ·rename_i b; exact absurd rfl (h1 b)
     ·exact absurd rfl h2
     ·rfl)
def O0(live:List Nat)(c:Bool)(d:Option Nat)(r:List aX)(v:ae)(M':aj)(hv:v.dJ=false):fu C fn base k live c d r env (some (v,M'))=cz C fn base k live r (iv env d v) M':=by
 unfold fu;rw[aI,zW hv]; rfl
def Tz(live:List Nat)(d:Option Nat)(r:List aX)(v:Value)(M':aj):fu C fn base k live true d r env (some (.fQ v,M'))=kr C fn base k ⟨.fQ v,[],M'⟩:=rfl
def Hq(d g f:_)(a m s1 s:_):aX.lets ⟨d,.call f a,g,m,s1,s,true⟩=true:=rfl
def D7(d g f:_)(a m s1 s:_):aX.lets ⟨d,.nY f a,g,m,s1,s,true⟩=true:=rfl
def D5(d g f:_)(a m s1 s:_):aX.lets ⟨d,.uC f a,g,m,s1,s,true⟩=true:=rfl
def D6(d g f:_)(a m s1 s:_):aX.lets ⟨d,.eE f a,g,m,s1,s,true⟩=true:=rfl
def D8(d g f:_)(m s1 s:_):aX.lets ⟨d,.raise f,g,m,s1,s,true⟩=true:=rfl
def adL(live:List Nat)(o:aX)(r:List aX):gK C fn base k live (.bool true) true o r env M=fu C fn base k live o.lets o.dst r env (ga C o env M):=rfl
def adI(live:List Nat)(o:aX)(r:List aX):gK C fn base k live (.bool false) false o r env M=fu C fn base k live o.lets o.dst r env (ga C o env M):=rfl
def adK(live:List Nat)(o:aX)(r:List aX):gK C fn base k live (.bool true) false o r env M=cz C fn base k live r (iv env o.dst (.tuple [])) M:=rfl
def adJ(live:List Nat)(o:aX)(r:List aX):gK C fn base k live (.bool false) true o r env M=cz C fn base k live r (iv env o.dst (.tuple [])) M:=rfl
def adM(live:List Nat)(w:Bool)(o:aX)(r:List aX):gK C fn base k live (.tuple []) w o r env M=cz C fn base k live r (iv env o.dst (.tuple [])) M:=rfl
def RE(x y:aO):bG C fn base k (.bool true) x y env M=bS C fn base k x env M:=rfl
def RD(x y:aO):bG C fn base k (.bool false) x y env M=bS C fn base k y env M:=rfl
def Yv(c:aO):kr C fn base (.seq c::k) ⟨.normal,env,M⟩=bS C fn base k c env M:=rfl
def BU(c:aO)(i:Nat):kr C fn base (.seq c::k) ⟨.exit i,env,M⟩=kr C fn base k ⟨.exit i,env,M⟩:=rfl
def DZ(c:aO):kr C fn base (.seq c::k) ⟨.ret,env,M⟩=kr C fn base k ⟨.ret,env,M⟩:=rfl
def DY(c:aO)(v:Value):kr C fn base (.seq c::k) ⟨.fQ v,env,M⟩=kr C fn base k ⟨.fQ v,env,M⟩:=rfl
def zF(id:Nat)(v:Value):kr C fn base (.block id::k) ⟨.fQ v,env,M⟩=kr C fn base k ⟨.fQ v,env,M⟩:=rfl
def BS(live:List Nat)(n:Nat)(c:aO)(v:Value):kr C fn base (.loop live n c::k) ⟨.fQ v,env,M⟩=kr C fn base k ⟨.fQ v,env,M⟩:=rfl
def Od(id:Nat):kr C fn base (.block id::k) ⟨.normal,env,M⟩=kr C fn base k ⟨.normal,env,M⟩:=rfl
def xG(id i:Nat):kr C fn base (.block id::k) ⟨.exit i,env,M⟩=if i=id then kr C fn base k ⟨.normal,env,M⟩ else kr C fn base k ⟨.exit i,env,M⟩:=by
 rw[kr]; simp only[oj]; split<;>rfl
def zG(id:Nat):kr C fn base (.block id::k) ⟨.ret,env,M⟩=kr C fn base k ⟨.ret,env,M⟩:=rfl
def RP(live:List Nat)(n:Nat)(c:aO):kr C fn base (.loop live n c::k) ⟨.normal,env,M⟩=bS C fn base k (.loop live c) (rJ n M (fj env live)) (fh n M):=rfl
def zH(live:List Nat)(n:Nat)(c:aO)(i:Nat):kr C fn base (.loop live n c::k) ⟨.exit i,env,M⟩=kr C fn base k ⟨.exit i,env,M⟩:=rfl
def BT(live:List Nat)(n:Nat)(c:aO):kr C fn base (.loop live n c::k) ⟨.ret,env,M⟩=kr C fn base k ⟨.ret,env,M⟩:=rfl
def Yu(o:Out):kr C fn base [] o=finish fn base o:=rfl
end
def eF{q body:aO}(h:q=body)(C:bL)(fn:List km)(base:Nat)(k:List K)(env:Env)(M:aj):bS C fn base k q env M=bS C fn base k body env M:=by rw[h]
def ai{T:rD}{f:Nat}{fn:bD}{args:List ae}{M:aj}{x:ae×aj}(h:bS (ag T) fn.results M.length [] fn.body (bW 0 args) M=some x)
  (hp:T.fZ f=none:=by exact rfl) (hc:T.code f=some fn:=by exact rfl) (hl:args.length=fn.nparams:=by exact rfl):ag T f args M=some x :=
 C4 hp hc hl (by
  unfold bS at h;obtain⟨o,h1,h2⟩:=az h;rw[h1]; exact h2)
end
section
open Go Go.RowKit
def bs(s:List UInt8):ByteArray:=⟨s.toArray⟩
structure J where
 f:Nat->Option Nat
 X:Nat->Nat->Prop
instance:CoeFun J (fun _=>Nat->Option Nat):=⟨J.f⟩
structure fY(j:J)(M:aj)(w:World)(b off:Nat):Prop where
 lt:b<w.heap.size
 ids:∀id,id<M.length->j id=some b->∃sz n,M[id]?=some (.tick sz n)/\off<n*sz
 nx:¬j.X b off
inductive cg(w:World)(cV:Nat->Nat->Prop):ae->Value->Prop where
 |bool (b:Bool):cg w cV (.bool b) (.bool b)
 |int (k:IntKind) (n:Int):cg w cV (.int k n) (.int k n)
 |str (s:List UInt8):cg w cV (.str s) (.string (bs s))
 |raw (v:Value) (h1:v.oneCell'=true):cg w cV (.raw v) v
 |slice (xs:List ae) (A:Option Addr) (len cap b off sz:Nat) (vs:Nat->Value) (hl:len=xs.length) (hc:len<=cap)
   (ha:xs≠[]->A=some ⟨b,off,none⟩) (hz:∀x,x∈xs->x.cells.length=sz)
   (hs:∀(i:Nat)(x:ae)(k:Nat)(c:ae),xs[i]?=some x->x.cells[k]?=some c->w.cell? ⟨b,off+(i*sz+k),none⟩=some (vs (i*sz+k))/\cV b (off+(i*sz+k)))
   (hr:∀(i:Nat)(x:ae)(k:Nat)(c:ae),xs[i]?=some x->x.cells[k]?=some c->cg w cV c (vs (i*sz+k))):cg w cV (.slice .sh xs) (.slice A len cap)
def IH(j:J)(w:World)(k n t:Nat)(x:Bool)(v:Value):Prop :=
 (j k=none/\n=0/\∃A,v = .slice A 0 0/\(x=true->A=none)) \/
 ∃b cap vs,0<n/\j k=some b/\v = .slice (some ⟨b,0,none⟩) n cap/\w.heap[b]?=some (.cells vs t (0,0))/\cap<=vs.size/\n<=cap
def Ar(j:J)(w:World)(k sz n:Nat)(v:Value):Prop :=
 (j k=none/\n=0/\∃A,v = .slice A 0 0) \/
 ∃b cap vs t,j k=some b/\v = .slice (some ⟨b,0,none⟩) n cap/\w.heap[b]?=some (.cells vs t (0,0))/\cap*sz<=vs.size/\n<=cap
def vf(w:World)(cV:Nat->Nat->Prop)(x:ae)(v:Value):Prop :=
 match x with
 | .agg cs=>∃us:Array Value,v = .agg us/\cs.length=us.size/\∀(i:Nat)(c:ae)(u:Value),cs[i]?=some c->us[i]?=some u->cg w cV c u
 |x=>cg w cV x v
inductive cC(j:J)(M:aj)(w:World):ae->Value->Prop where
 |plain {x:ae} {v:Value} (h:cg w (fY j M w) x v):cC j M w x v
 |c0 (A:Option Addr):cC j M w (.slice .c0 []) (.slice A 0 0)
 |own {k:Nat} {xs:List ae} {v:Value} {sz n:Nat} (hk:M[k]?=some (.tick sz n)) (hn:xs.length<=n) (h:cg w (fY j M w) (.slice .sh xs) v)
   (ht:xs.length=n->Ar j w k sz n v):cC j M w (.slice (.own k) xs) v
 |agg {cs:List ae} {vs:Array Value} (hl:cs.length=vs.size) (h:∀(i:Nat)(c:ae)(v:Value),cs[i]?=some c->vs[i]?=some v->cC j M w c v):cC j M w (.agg cs) (.agg vs)
 |tuple {cs:List ae} {vs:Array Value} (hl:cs.length=vs.size) (h:∀(i:Nat)(c:ae)(v:Value),cs[i]?=some c->vs[i]?=some v->cC j M w c v):cC j M w (.tuple cs) (.tuple vs)
 |ptr {id off b:Nat} (hid:id<M.length) (hc:∃cs,M[id]?=some (.cells cs)) (hj:j id=some b):cC j M w (.ptr id off) (.pointer (some ⟨b,off,none⟩))
 |dq {cs:List ae} {b off:Nat} {vs:Nat->Value} (h:∀(k:Nat)(c:ae),cs[k]?=some c->w.cell? ⟨b,off+k,none⟩=some (vs k)/\fY j M w b (off+k)/\cg w (fY j M w) c (vs k)) :
   cC j M w (.dq cs) (.pointer (some ⟨b,off,none⟩))
 |func {f:Nat} {caps:List ae} {vs:Array Value} (hl:caps.length=vs.size) (h:∀(i:Nat)(c:ae)(v:Value),caps[i]?=some c->vs[i]?=some v->cC j M w c v) :
   cC j M w (.func f caps) (.func (.func f) #[] vs)
 |cU {id b:Nat} (hc:∃ks vs,M[id]?=some (.map ks vs)) (hj:j id=some b):cC j M w (.cU id) (.map (some b))
 |dD {id b:Nat} (hc:∃s p,M[id]?=some (.fI s p)) (hj:j id=some b):cC j M w (.dD id) (.pointer (some ⟨b,0,none⟩))
 |dI {ks vs:List ae} {b:Nat} {es:Array MapEntry} {clock:Nat} (hb:b<w.heap.size) (hf:∀i,i<M.length->j i≠some b) (hx:∀off,¬j.X b off) (hw:w.heap[b]?=some (.map es clock)) (hk:ks.length=es.size) (hv:vs.length=es.size)
   (hks:∀(i:Nat)(k:ae)(e:MapEntry),ks[i]?=some k->es[i]?=some e->cg w (fY j M w) k e.key) (hvs:∀(i:Nat)(v:ae)(e:MapEntry),vs[i]?=some v->es[i]?=some e->vf w (fY j M w) v e.val) :
   cC j M w (.dI ks vs) (.map (some b))
 |aW {id ver sz lo hi:Nat} {v:Value} (h0:(∃b off c,v = .slice (some ⟨b,off,none⟩) (hi-lo) c/\hi-lo<=c)\/hi-lo=0/\∃A,v = .slice A 0 0) (hid:id<M.length) (hM:∀bx,M[id]?=some bx->bx.loose=true)
   (hv:∀sz' v' xs,M[id]?=some (.arr sz' v' xs)->ver<=v'/\(v'=ver->sz'=sz/\lo<=hi/\hi<=xs.length/\((xs=[]/\j id=none/\∃A,v = .slice A 0 0)\/∃b cap vs t,j id=some b/\v = .slice (some ⟨b,lo*sz,none⟩) (hi-lo) cap/\hi-lo<=cap/\w.heap[b]?=some (.cells vs t (0,0))/\(lo+cap)*sz<=vs.size))) :
   cC j M w (.aW id ver sz lo hi) v
 |dk {id ver i off:Nat} {v:Value} (h0:∃b o,v = .pointer (some ⟨b,o,none⟩)) (hid:id<M.length) (hM:∀bx,M[id]?=some bx->bx.loose=true)
   (hv:∀sz v' xs,M[id]?=some (.arr sz v' xs)->ver<=v'/\(v'=ver->i<xs.length/\∃b,j id=some b/\v = .pointer (some ⟨b,i*sz+off,none⟩))) :
   cC j M w (.dk id ver i off) v
 |iM {f:Nat} {fs:List ae} {vs:Array Value} (hl:fs.length=vs.size) (h:∀(i:Nat)(c:ae)(v:Value),fs[i]?=some c->vs[i]?=some v->vf w (fY j M w) c v):cC j M w (.iM f fs) (.func (.func f) vs #[])
 |dU {t id off b:Nat} (hc:∃cs,M[id]?=some (.cells cs)) (hj:j id=some b):cC j M w (.dU t id off) (.iface t (.pointer (some ⟨b,off,none⟩)))
 |any (v:Value):cC j M w .any v
def RC(j:J)(M:aj)(w:World)(cs:List ae)(vs:Array Value):Prop :=
 cs.length=vs.size/\∀(i:Nat)(c:ae)(v:Value),cs[i]?=some c->vs[i]?=some v->cC j M w c v
def Holds(j:J)(M:aj)(w:World)(b:Nat):aM->Prop
 | .cells cs=>∃vs t,w.heap[b]?=some (.cells vs t (0,0))/\RC j M w cs vs
 | .tick _ _=>True
 | .map ks vs=>∃es clock,w.heap[b]?=some (.map es clock)/\ks.length=es.size/\vs.length=es.size/\(∀(i:Nat)(k:ae)(e:MapEntry),ks[i]?=some k->es[i]?=some e->cg w (fY j M w) k e.key) /\
   ∀(i:Nat)(v:ae)(e:MapEntry),vs[i]?=some v->es[i]?=some e->cC j M w v e.val
 | .fI s pos=>w.heap[b]?=some (.stringIter (bs s) pos)
 | .arr _ _ _=>True
 | .nz=>True
structure Rel(j:J)(M:aj)(w:World):Prop where
 inj:∀i i' b,i<M.length->i'<M.length->j i=some b->j i'=some b->i=i'
 lt:∀i b,i<M.length->j i=some b->b<w.heap.size
 fix:∀i bx,M[i]?=some bx->bx.fixed=true->∃b,j i=some b/\Holds j M w b bx
 tick:∀i sz n b,M[i]?=some (.tick sz n)->j i=some b->∃vs t,w.heap[b]?=some (.cells vs t (0,0))
 arr:∀i sz ver xs,M[i]?=some (.arr sz ver xs)->(xs=[]/\j i=none)\/∃b vs t,j i=some b/\w.heap[b]?=some (.cells vs t (0,0))/\xs.length*sz<=vs.size/\(∀x,x∈xs->x.cells.length=sz) /\
  ∀(q:Nat)(x:ae)(k:Nat)(c:ae),xs[q]?=some x->x.cells[k]?=some c->∃v,vs[q*sz+k]?=some v/\cg w (fY j M w) c v
 mN:∀i b,i<M.length->j i=some b->∀off,¬j.X b off
 tb:∀b off,j.X b off->b<w.heap.size
def Rel.box{j:J}{M:aj}{w:World}(h:Rel j M w)(i:Nat)(cs:List ae)(hi:M[i]?=some (.cells cs)):∃b vs t,j i=some b/\w.heap[b]?=some (.cells vs t (0,0))/\cs.length=vs.size /\
  ∀(q:Nat)(c:ae)(v:Value),cs[q]?=some c->vs[q]?=some v->cC j M w c v:=by
 obtain⟨b,h1,vs,t,h2,h3⟩:=h.fix i _ hi rfl;exact⟨b,vs,t,h1,h2,h3.1,h3.2⟩
structure Ext(j:J)(M:aj)(w:World)(j':J)(M':aj)(w':World):Prop where
 len:M.length<=M'.length
 size:w.heap.size<=w'.heap.size
 os:w'.os=w.os
 tape:w'.tape=w.tape
 output:w'.output=w.output
 X:j'.X=j.X
 fix:∀i bx,M[i]?=some bx->bx.fixed=true->j' i=j i/\∃bx',M'[i]?=some bx'/\bx'.tag=bx.tag
 tick:∀i sz n,M[i]?=some (.tick sz n)->∃n',n<=n'/\M'[i]?=some (.tick sz n') /\
  (n'=n->j' i=j i/\∀b vs t,j i=some b->w.heap[b]?=some (.cells vs t (0,0))->∃vs',w'.heap[b]?=some (.cells vs' t (0,0))/\vs'.size=vs.size)
 arr:∀i sz ver xs,M[i]?=some (.arr sz ver xs)->(∃n',M'[i]?=some (.tick sz n'))\/∃ver' xs',M'[i]?=some (.arr sz ver' xs')/\ver<=ver' /\
  (ver'=ver->j' i=j i/\xs'.length=xs.length/\∀b vs t,j i=some b->w.heap[b]?=some (.cells vs t (0,0))->∃vs',w'.heap[b]?=some (.cells vs' t (0,0))/\vs'.size=vs.size)
 tags:∀(b:Nat)(vs:Array Value)(t:TypeId)(fr:Nat×Nat),w.heap[b]?=some (.cells vs t fr)->∃vs' fr',w'.heap[b]?=some (.cells vs' t fr')/\vs'.size=vs.size
 cV:∀b off,fY j M w b off->fY j' M' w' b off/\w'.cell? ⟨b,off,none⟩=w.cell? ⟨b,off,none⟩
 nA:∀b,b<w.heap.size->(∀i,i<M.length->j i≠some b)->w'.heap[b]?=w.heap[b]?/\∀i,i<M'.length->j' i≠some b
def uq{a b:aM}(h:b.tag=a.tag)(ha:a.fixed=true):b.fixed=true:=by
 cases a<;>cases b<;>simp[aM.tag,aM.fixed] at * <;> omega
def yR{b:aM}(h:b.tag=0):∃cs,b = .cells cs:=by cases b<;>simp[aM.tag] at h; simp
def T4{b:aM}(h:b.tag=1):∃ks vs,b = .map ks vs:=by cases b<;>simp[aM.tag] at h; simp
def HZ{b:aM}(h:b.tag=2):∃s p,b = .fI s p:=by cases b<;>simp[aM.tag] at h; simp
theorem cg.mono{w w':World}{cV saf':Nat->Nat->Prop}(h:∀b off,cV b off->saf' b off/\w'.cell? ⟨b,off,none⟩=w.cell? ⟨b,off,none⟩)
  {x:ae} {v:Value} (hr:cg w cV x v):cg w' saf' x v:=by
 induction hr with
 |bool b=>simp[bool]
 |int k n=>exact .int k n
 |str s=>exact .str s
 |raw v h1=>exact .raw v h1
 |slice xs A len cap b off sz vs hl hc ha hz hs _ ih =>
  refine .slice _ A _ _ b _ _ _ hl hc ha hz (fun i x k c hx hk=>?_) ih
  grind
def vf.mono{w w':World}{cV saf':Nat->Nat->Prop}(h:∀b off,cV b off->saf' b off/\w'.cell? ⟨b,off,none⟩=w.cell? ⟨b,off,none⟩)
  {x:ae} {v:Value} (hr:vf w cV x v):vf w' saf' x v:=by
 by_cases hag:∃cs,x = .agg cs
 ·obtain⟨cs,rfl⟩:=hag;obtain⟨us,h1,h2,h3⟩:=hr;exact⟨us,h1,h2,fun i c u hc hu=>(h3 i c u hc hu).mono h⟩
 ·cases x<;>first|exact absurd ⟨_,rfl⟩ hag|exact cg.mono h hr
section
variable {j j' j'':J} {M M' M'':aj} {w w' w'':World}
def IH.mono{k n t:Nat}{x:Bool}{v:Value}(h:IH j w k n t x v)(hj:j' k=j k)
  (hb:∀b vs t,j k=some b->w.heap[b]?=some (.cells vs t (0,0))->∃vs',w'.heap[b]?=some (.cells vs' t (0,0))/\vs'.size=vs.size):IH j' w' k n t x v:=by
 rcases h with ⟨h1,h2,h3⟩|⟨b,cap,vs,h0,h1,h2,h3,h4,h5⟩
 ·exact .inl ⟨hj.trans h1,h2,h3⟩
 ·obtain⟨vs',h6,h7⟩:=hb b _ t h1 h3;exact .inr ⟨b,cap,vs',h0,hj.trans h1,h2,h6,by omega,h5⟩
def Ar.mono{k sz n:Nat}{v:Value}(h:Ar j w k sz n v)(hj:j' k=j k)
  (hb:∀b vs t,j k=some b->w.heap[b]?=some (.cells vs t (0,0))->∃vs',w'.heap[b]?=some (.cells vs' t (0,0))/\vs'.size=vs.size):Ar j' w' k sz n v:=by
 rcases h with ⟨h1,h2,h3⟩|⟨b,cap,vs,t,h1,h2,h3,h4,h5⟩
 ·exact .inl ⟨hj.trans h1,h2,h3⟩
 ·obtain⟨vs',h6,h7⟩:=hb b _ t h1 h3;exact .inr ⟨b,cap,vs',t,hj.trans h1,h2,h6,by omega,h5⟩
theorem Ext.loose(hx:Ext j M w j' M' w'){id:Nat}(hid:id<M.length)(hM:∀bx,M[id]?=some bx->bx.loose=true):(∀bx,M'[id]?=some bx->bx.loose=true) /\
  ∀sz v' xs,M'[id]?=some (.arr sz v' xs)->∃v0 xs0,M[id]?=some (.arr sz v0 xs0)/\v0<=v' /\
   (v'=v0->j' id=j id/\xs.length=xs0.length/\∀b vs t,j id=some b->w.heap[b]?=some (.cells vs t (0,0))->∃vs',w'.heap[b]?=some (.cells vs' t (0,0))/\vs'.size=vs.size):=by
 have h0:=List.getElem?_eq_getElem hid;have hf:=hM _ h0;generalize M[id]=bx at h0 hf;cases bx with
 |cells=>cases hf
 |map=>cases hf
 |fI=>cases hf
 |nz=>cases hf
 |tick sz n =>
  obtain⟨n',h1,h2,h3⟩:=hx.tick _ _ _ h0;refine⟨fun bx hb=>?_,fun sz v' xs h=>?_⟩
  ·rw[h2] at hb; cases hb; rfl
  grind
 |arr sz v xs =>
  rcases hx.arr _ _ _ _ h0 with ⟨n',h2⟩|⟨v1,xs1,h2,h3,h4⟩
  ·refine⟨fun bx hb=>?_,fun sz v' xs h=>?_⟩
   ·rw[h2] at hb; cases hb; rfl
   grind
  ·refine⟨fun bx hb=>?_,fun sz' v' xs' h=>?_⟩
   ·rw[h2] at hb; cases hb; rfl
   grind
theorem cC.mono(hx:Ext j M w j' M' w'){x:ae}{v:Value}(hr:cC j M w x v):cC j' M' w' x v:=by
 induction hr with
 |plain h=>exact .plain (h.mono hx.cV)
 |c0 A=>exact .c0 A
 |own hk hn h ht =>
  obtain⟨n',h1,h2,h3⟩:=hx.tick _ _ _ hk;refine .own h2 (by omega) (h.mono hx.cV) (fun he=>?_)
  have:n'=_:=Nat.le_antisymm (by omega) h1
  obtain⟨h4,h5⟩:=h3 this;subst this;exact(ht he).mono h4 h5
 |agg hl _ ih=>exact .agg hl ih
 |tuple hl _ ih=>exact .tuple hl ih
 |ptr hid hc hj =>
  obtain⟨cs,hc⟩:=hc;obtain⟨h1,bx,h2,h3⟩:=hx.fix _ _ hc rfl;obtain⟨cs',rfl⟩:=yR h3;exact .ptr (Nat.lt_of_lt_of_le hid hx.len) ⟨_,h2⟩ (h1.trans hj)
 | @dq cs b off vs h =>
  refine .dq (vs:=vs) fun k c hk=>?_
  obtain⟨h1,h2,h3⟩:=h k c hk;obtain⟨h4,h5⟩:=hx.cV _ _ h2;exact⟨h5.trans h1,h4,h3.mono hx.cV⟩
 |func hl _ ih=>exact .func hl ih
 |cU hc hj =>
  obtain⟨ks,vs,hc⟩:=hc;obtain⟨h1,bx,h2,h3⟩:=hx.fix _ _ hc rfl;obtain⟨ks',vs',rfl⟩:=T4 h3;exact .cU ⟨_,_,h2⟩ (h1.trans hj)
 |dD hc hj =>
  obtain⟨ks,vs,hc⟩:=hc;obtain⟨h1,bx,h2,h3⟩:=hx.fix _ _ hc rfl;obtain⟨ks',vs',rfl⟩:=HZ h3;exact .dD ⟨_,_,h2⟩ (h1.trans hj)
 |dI hb hf hxx hw hk hv hks hvs =>
  obtain⟨h1,h2⟩:=hx.nA _ hb hf;exact .dI (Nat.lt_of_lt_of_le hb hx.size) h2 (by rw[hx.X]; omega) (h1.trans hw) hk hv (fun i k e h1 h2=>(hks i k e h1 h2).mono hx.cV) (fun i k e h1 h2=>(hvs i k e h1 h2).mono hx.cV)
 |aW hs hid hM hv =>
  obtain⟨g1,g2⟩:=hx.loose hid hM;refine .aW hs (Nat.lt_of_lt_of_le hid hx.len) g1 fun sz v' xs h=>?_
  obtain⟨v0,xs0,h0,h1,h2⟩:=g2 sz v' xs h;obtain⟨h3,h4⟩:=hv sz v0 xs0 h0;refine⟨by omega,fun he=>?_⟩
  obtain⟨h5,h6,h7⟩:=h2 (by omega)
  obtain⟨l0,l1,l2,⟨rfl,l3,l4⟩|⟨b,cap,vs,t,l3,l4,l5,l6,l7⟩⟩:=h4 (by omega)
  ·exact⟨l0,l1,by omega,.inl ⟨List.eq_nil_of_length_eq_zero (by omega),h5.trans l3,l4⟩⟩
  obtain⟨vs',l8,l9⟩:=h7 b vs t l3 l6;exact⟨l0,l1,by omega,.inr ⟨b,cap,vs',t,h5.trans l3,l4,l5,l8,by omega⟩⟩
 |dk hs hid hM hv =>
  obtain⟨g1,g2⟩:=hx.loose hid hM;refine .dk hs (Nat.lt_of_lt_of_le hid hx.len) g1 fun sz v' xs h=>?_
  grind
 |iM hl h=>exact .iM hl fun i c v hc hv=>(h i c v hc hv).mono hx.cV
 |dU hc hj =>
  obtain⟨cs,hc⟩:=hc;obtain⟨h1,bx,h2,h3⟩:=hx.fix _ _ hc rfl;obtain⟨cs',rfl⟩:=yR h3;exact .dU ⟨_,h2⟩ (h1.trans hj)
 |any v=>exact .any v
def Holds.mono{b:Nat}{bx:aM}(hx:Ext j M w j' M' w')(hb:w'.heap[b]?=w.heap[b]?)(h:Holds j M w b bx):Holds j' M' w' b bx:=by
 cases bx with
 |cells cs =>
  obtain⟨vs,t,h1,h2,h3⟩:=h;exact⟨vs,t,hb.trans h1,h2,fun i c v hc hv=>(h3 i c v hc hv).mono hx⟩
 |tick=>trivial
 |map ks vs =>
  obtain⟨es,clock,h1,h2,h3,h4,h5⟩:=h;exact⟨es,clock,hb.trans h1,h2,h3,fun i k e hk he=>(h4 i k e hk he).mono hx.cV,fun i k e hk he=>(h5 i k e hk he).mono hx⟩
 |fI s pos=>exact hb.trans h
 |arr=>trivial
 |nz=>trivial
theorem Holds.lt{b:Nat}{bx:aM}(h:Holds j M w b bx)(hf:bx.fixed=true):∃o,w.heap[b]?=some o:=by
 cases bx with
 |cells cs=>obtain⟨vs,t,h1,_⟩:=h; grind
 |tick=>cases hf
 |map ks vs=>obtain⟨es,clock,h1,_⟩:=h; grind
 |fI s pos=>exact⟨_,h⟩
 |arr=>cases hf
 |nz=>cases hf
def Ext.refl(j:J)(M:aj)(w:World):Ext j M w j M w where
 len:=Nat.le_refl _
 size:=Nat.le_refl _
 os:=rfl
 tape:=rfl
 output:=rfl
 X:=rfl
 fix:=fun i bx h _=>⟨rfl,bx,h,rfl⟩
 tick:=fun i sz n h=>⟨n,Nat.le_refl _,h,fun _=>⟨rfl,fun b vs t _ h=>⟨vs,h,rfl⟩⟩⟩
 arr:=fun i sz v xs h => .inr ⟨v,xs,h,Nat.le_refl _,fun _=>⟨rfl,rfl,fun b vs t _ h=>⟨vs,h,rfl⟩⟩⟩
 tags:=fun b vs t fr h=>⟨vs,fr,h,rfl⟩
 cV:=fun b off h=>⟨h,rfl⟩
 nA:=fun b hb h=>⟨rfl,h⟩
theorem Ext.trans(h:Ext j M w j' M' w')(k:Ext j' M' w' j'' M'' w''):Ext j M w j'' M'' w'' where
 len:=Nat.le_trans h.len k.len
 size:=Nat.le_trans h.size k.size
 os:=k.os.trans h.os
 tape:=k.tape.trans h.tape
 output:=k.output.trans h.output
 X:=k.X.trans h.X
 fix:=fun i bx hi hf=>by
  obtain⟨h1,bx',h2,h3⟩:=h.fix i bx hi hf;have hf':bx'.fixed=true:=uq h3 hf;obtain⟨h4,bx'',h5,h6⟩:=k.fix i bx' h2 hf'
  grind
 tick:=fun i sz n hi=>by
  obtain⟨n1,a1,a2,a3⟩:=h.tick i sz n hi;obtain⟨n2,b1,b2,b3⟩:=k.tick i sz n1 a2
  grind
 arr:=fun i sz v xs hi=>by
  rcases h.arr i sz v xs hi with ⟨n1,a1⟩|⟨v1,xs1,a1,a2,a3⟩
  ·obtain⟨n2,_,b2,_⟩:=k.tick i sz n1 a1
   grind
  ·rcases k.arr i sz v1 xs1 a1 with ⟨n2,b1⟩|⟨v2,xs2,b1,b2,b3⟩
   ·grind
   grind
 tags:=fun b vs t fr hb=>by
  obtain⟨vs1,fr1,h1,h2⟩:=h.tags b vs t fr hb;obtain⟨vs2,fr2,h3,h4⟩:=k.tags b vs1 t fr1 h1
  grind
 cV:=fun b off hs=>by
  obtain⟨h1,h2⟩:=h.cV b off hs;obtain⟨h3,h4⟩:=k.cV b off h1
  grind
 nA:=fun b hb hn=>by
  obtain⟨h1,h2⟩:=h.nA b hb hn;obtain⟨h3,h4⟩:=k.nA b (Nat.lt_of_lt_of_le hb h.size) h2
  grind
theorem Ext.grow(hsz:w.heap.size<=w'.heap.size)(hos:w'.os=w.os)(ht:w'.tape=w.tape)(ho:w'.output=w.output)
  (hb:∀b,b<w.heap.size->w'.heap[b]?=w.heap[b]?):Ext j M w j M w' where
 len:=Nat.le_refl _
 size:=hsz
 os:=hos
 tape:=ht
 output:=ho
 X:=rfl
 fix:=fun i bx h _=>⟨rfl,bx,h,rfl⟩
 tick:=fun i sz n h=>⟨n,Nat.le_refl _,h,fun _=>⟨rfl,fun b vs t _ hv=>by
  grind⟩⟩
 arr:=fun i sz v xs h => .inr ⟨v,xs,h,Nat.le_refl _,fun _=>⟨rfl,rfl,fun b vs t _ hv=>by
  grind⟩⟩
 tags:=fun b vs t fr h=>by
  grind
 cV:=fun b off h=>⟨⟨Nat.lt_of_lt_of_le h.1 hsz,h.2,h.3⟩,World.cell?_of_block (hb b h.1)⟩
 nA:=fun b hlt h=>⟨hb b hlt,h⟩
theorem Rel.grow(hr:Rel j M w)(hsz:w.heap.size<=w'.heap.size)(hos:w'.os=w.os)(ht:w'.tape=w.tape)(ho:w'.output=w.output)
  (hb:∀b,b<w.heap.size->w'.heap[b]?=w.heap[b]?):Rel j M w' where
 inj:=hr.inj
 lt:=fun i b hi h=>Nat.lt_of_lt_of_le (hr.lt i b hi h) hsz
 fix:=fun i bx h hf=>by
  obtain⟨b,h1,h2⟩:=hr.fix i _ h hf;have hi  := (List.getElem?_eq_some_iff.1 h).1;exact⟨b,h1,h2.mono (Ext.grow hsz hos ht ho hb) (hb b (hr.lt i b hi h1))⟩
 tick:=fun i sz n b h hj=>by
  obtain⟨vs,t,h1⟩:=hr.tick i _ n b h hj
  grind
 arr:=fun i sz v xs h=>by
  rcases hr.arr i _ v _ h with he|⟨b,vs,t,h1,h2,h3,h4,h5⟩
  ·exact .inl he
  have hi  := (List.getElem?_eq_some_iff.1 h).1;refine .inr ⟨b,vs,t,h1,(hb b (hr.lt i b hi h1)).trans h2,h3,h4,fun q x k c hx hk=>?_⟩
  obtain⟨u,h6,h7⟩:=h5 q x k c hx hk;exact⟨u,h6,h7.mono (Ext.grow hsz hos ht ho hb).cV⟩
 mN:=hr.mN
 tb:=fun b off h=>Nat.lt_of_lt_of_le (hr.tb b _ h) hsz
end
class ew where
 g:Nat->Option (List Value)
 q:Nat->Option (Value->Prop):=fun _=>none
 u8:Nat:=0
structure ke[ew](j:J)(M:aj)(w:World):Prop where
 g:∀b vs k v,ew.g b=some vs->vs[k]?=some v->fY j M w b k/\w.cell? ⟨b,k,none⟩=some v
 n:∀b vs,ew.g b=some vs->∃us t fr,w.heap[b]?=some (.cells us t fr)/\us.size=vs.length
 q:∀b p,ew.q b=some p->∃v,p v/\fY j M w b 0/\w.cell? ⟨b,0,none⟩=some v
theorem ke.cV[ew]{j j':J}{M M':aj}{w:World}(h:ke j M w)(hx:∀b off,fY j M w b off->fY j' M' w b off):ke j' M' w where
 g:=fun b vs k v hb hk=>⟨hx _ _ (h.g b _ k v hb hk).1,(h.g b _ k v hb hk).2⟩
 n:=h.n
 q:=fun b p hb=>by
  obtain⟨v,h0,h1,h2⟩:=h.q b p hb
  grind
theorem ke.mono[ew]{j j':J}{M M':aj}{w w':World}(h:ke j M w)(hx:Ext j M w j' M' w'):ke j' M' w' where
 g:=fun b vs k v hb hk=>by
  obtain⟨h1,h2⟩:=h.g b _ k v hb hk;obtain⟨h3,h4⟩:=hx.cV _ _ h1
  grind
 n:=fun b vs hb=>by
  obtain⟨us,t,fr,h1,h2⟩:=h.n b _ hb;obtain⟨us',fr',h3,h4⟩:=hx.tags b _ t _ h1
  grind
 q:=fun b p hb=>by
  obtain⟨v,h0,h1,h2⟩:=h.q b p hb;obtain⟨h3,h4⟩:=hx.cV _ _ h1
  grind
variable [ew]
structure aN(j:J)(M:aj)(w:World)(env:Env)(a:Act):Prop where
 at':∀t,cC j M w (dg env t) (a.tmps.getD t undef)
 gl:ke j M w
def aN.mono{j j':J}{M M':aj}{w w':World}{env:Env}{a:Act}(h:aN j M w env a)(hx:Ext j M w j' M' w'):aN j' M' w' env a :=
 ⟨fun t=>(h.at' t).mono hx,h.gl.mono hx⟩
def aN.put{j:J}{M:aj}{w:World}{env:Env}{a:Act}{n:Nat}(h:aN j M w env a)(hs:a.tmps.size=n){dst:Option Nat}(hd:∀d,dst=some d->d<n)
  {x:ae} {v:Value} (hv:cC j M w x v):aN j M w (iv env dst x) (a.put dst v):=by
 refine⟨fun t=>?_,h.gl⟩
 cases dst with
 |none=>exact h.at' t
 |some d =>
  simp[iv,dg,Act.put]
  by_cases he:d=t
  ·simp_all
  ·have:=h.at' t;simp_all
theorem qZ(env:Env)(live:List Nat)(t:Nat):dg (fj env live) t=if t∈live then dg env t else .any:=by
 induction live<;>grind [fj,dg]
def aN.jc{j:J}{M:aj}{w:World}{env:Env}{a:Act}(h:aN j M w env a)(live:List Nat):aN j M w (fj env live) a:=by
 refine⟨fun t=>?_,h.gl⟩
 rw[qZ];split
 ·exact h.at' t
 ·exact .any _
end
section
open Go
def C3:Value->Option ae
 | .bool b=>some (.bool b)
 | .int k n=>some (.int k n)
 | .string s=>some (.str s.data.toList)
 | .slice none 0 0=>some (.slice .c0 [])
 | .pointer none=>some (.raw (.pointer none))
 | .nilFunc=>some (.raw .nilFunc)
 | .nilIface=>some (.raw .nilIface)
 | .map none=>some (.raw (.map none))
 |_=>none
def kv:List Value->Option (List ae)
 | []=>some []
 |v::r=>(C3 v).bind fun x=>(kv r).bind fun l=>some (x::l)
def IJ:Value->Option ae
 | .agg vs=>(kv vs.toList).bind fun l=>some (.agg l)
 |v=>C3 v
def Um:Value->Option ae
 | .bool b=>some (.bool b)
 | .int k n=>some (.int k n)
 | .string s=>some (.str s.data.toList)
 | .pointer none=>some (.raw (.pointer none))
 | .nilIface=>some (.raw .nilIface)
 |_=>none
def II:List Value->Option (List ae)
 | []=>some []
 |v::r=>(Um v).bind fun x=>(II r).bind fun l=>some (x::l)
variable [ew]
def bH:Operand->Option cR
 | .tmp t=>some (.tmp t)
 | .const v=>(IJ v).bind fun x=>some (.ep x)
 | .func f=>some (.ep (.func f []))
 | .global g=>(ew.g g).bind fun vs=>(II vs).bind fun l=>some (.ep (.dq l))
def IZ:Operand->Option cR
 | .func f=>some (.ep (.raw (.func (.func f) ⟨[]⟩ ⟨[]⟩)))
 |x=>bH x
def py(n:Nat):List (Nat×Operand)->Option (List (Nat×Nat×cR))
 | []=>some []
 |(i,x)::r=>(bH x).bind fun y=>(py n r).bind fun l=>some ((i*n,n,y)::l)
def mQ:List Operand->Option (List cR)
 | []=>some []
 |x::r=>(bH x).bind fun y=>(mQ r).bind fun l=>some (y::l)
def vi:Option Operand->Option (Option cR)
 |none=>some none
 |some x=>(bH x).bind fun y=>some (some y)
def iQ(P:Program)(t:TypeId):Option Nat:=(P.info? t).bind fun i=>some i.size
def vg(P:Program)(t:TypeId):Option Bool:=(P.underlying t).bind fun d=>some (match d with | .struct _ | .array _ _=>true|_=>false)
def tn(P:Program)(fs:Array Field):List (Nat×Operand)->Option (List (Nat×Nat×cR))
 | []=>some []
 |(i,x)::r=>(fs[i]?).bind fun f=>(iQ P f.type).bind fun n=>(bH x).bind fun y=>(tn P fs r).bind fun l=>some ((f.offset,n,y)::l)
def AK:Nat->List (Nat×Operand)->Option (List cR)
 |_,[]=>some []
 |k,(i,x)::r=>if i=k then (bH x).bind fun y=>(AK (k+1) r).bind fun l=>some (y::l) else none
def Jr (P:Program) (f:Field):Option FK:=if f.name = "_" then none else match P.underlying f.type with
 |some .bool=>some .b
 |some (.int _)=>some .i
 |some .string=>some .s
 |_=>none
def uJ(P:Program):Nat->List Field->Option (List FK)
 |_,[]=>some []
 |k,f::r=>if f.offset=k then (Jr P f).bind fun x=>(uJ P (k+1) r).bind fun l=>some (x::l) else none
def wI(P:Program)(t:TypeId):Option FK:=match P.underlying t with
 |some .bool=>some .b
 |some (.int _)=>some .i
 |some .string=>some .s
 |_=>none
def Gx:BinOp->Option Ga
 | .and=>some .and | .or=>some .or | .xor=>some .xor
 | .add=>some .add | .sub=>some .sub | .mul=>some .mul | .quo=>some .quo | .rem=>some .rem
 | .eql=>some .eql | .neq=>some .neq | .lss=>some .lss | .leq=>some .leq | .gtr=>some .gtr | .geq=>some .geq
 | .shl=>some .shl | .shr=>some .shr
 |_=>none
def fz (P:Program) (f:Nat):Bool:=match P.funcs[f]? with|some fn=>fn.name != "runtime.NumGoroutine" && fn.body.isSome|none=>false
def IY(P:Program)(own:List Nat)(dst:Option Nat)(type:TypeId)(c:Call):Option eu :=
 match c.callee with
 | .value (.func f)=>if fz P f then (mQ c.args.toList).bind fun l=>some (if own.contains (1000000+f) then .uC f l else if own.contains (2000000+f) then .eE f l else if own.contains (8000000+f) then .nW f l else .call f l) else none
 | .value (.tmp t)=>(mQ c.args.toList).bind fun l=>some (.nY (.tmp t) l)
 | .builtin .len=>match c.args.toList,(c.argTypes[0]?).bind P.underlying with
  | [x],some .string=>(bH x).bind fun y=>some (.Hn y)
  | [x],some (.slice _)=>(bH x).bind fun y=>some (.wJ y)
  | [x],some (.map _ _)=>(bH x).bind fun y=>some (.Hm y)
  |_,_=>none
 | .builtin .copy=>match c.args.toList,c.argTypes.toList with
  | [x,y],[t,t']=>match P.underlying t,P.underlying t' with
   |some (.slice e),some (.slice _)=>(iQ P e).bind fun n=>(bH x).bind fun x=>(bH y).bind fun y=>if 0<n then some (.xU n x y) else none
   |_,_=>none
  |_,_=>none
 | .builtin .append=>match c.args.toList,c.argTypes.toList with
  | [x,y],[t,t']=>match P.underlying t,P.underlying t' with
   |some (.slice e),some (.int _)=>(P.info? e).bind fun i=>i.zero.bind fun z=>(kv z.cells.toList).bind fun l=>(bH x).bind fun x=>(bH y).bind fun y =>
    if l.length=i.size/\0<i.size/\0<i.bytes/\i.bytes<=2 ^ 20 then some (.pr i.size i.bytes (l.map ae.shut) x y) else none
   |some (.slice e),some (.slice _)=>(P.info? e).bind fun i=>(bH x).bind fun x=>(bH y).bind fun y =>
    if decide ((i.zero.map fun z=>z.cells.size)=some i.size)&&decide (0<i.size)&&decide (0<i.bytes)&&decide (i.bytes<=2 ^ 20) then some (match dst with|some d=>if own.contains (7000000+d) then .nD i.size i.bytes x y else .append i.size i.bytes x y|none => .append i.size i.bytes x y) else none
   |_,_=>none
  |_,_=>none
 | .builtin .clear=>match c.args.toList,c.argTypes.toList with
  | [x],[t]=>match P.underlying t with
   |some (.slice e)=>(P.info? e).bind fun i=>i.zero.bind fun z=>(kv z.cells.toList).bind fun l=>(bH x).bind fun x =>
    if l.length=i.size/\0<i.size then some (.tp i.size (l.map ae.shut) x) else none
   |_=>none
  |_,_=>none
 | .builtin .max=>match c.args.toList with|[x,y]=>(bH x).bind fun x=>(bH y).bind fun y=>some (.rm true x y)|_=>none
 | .builtin .min=>match c.args.toList with|[x,y]=>(bH x).bind fun x=>(bH y).bind fun y=>some (.rm false x y)|_=>none
 |_=>none
def Ie(P:Program)(own:List Nat)(o:Oper):Option eu :=
 match o.op with
 | .move x=>(bH x).bind fun x=>some (.mv x)
 | .assign x=>(bH x).bind fun x =>
  match o.dst with
  |some d=>if own.contains d then match P.underlying o.type with
    |some (.slice e)=>(iQ P e).bind fun n=>match x with
     | .ep (.slice .c0 [])=>some (.own n x)
     |_=>some (.mv x)
    |_=>none
   else some (.mv x)
  |none=>some (.mv x)
 | .pick c a b=>(bH c).bind fun c=>(bH a).bind fun a=>(bH b).bind fun b=>some (.pick c a b)
 | .alloc t=>(P.info? t).bind fun i=>i.zero.bind fun z=>(kv z.cells.toList).bind fun l =>
  match o.dst with
  |some d=>if own.contains (6000000+d) then (match P.underlying t,l with
    |some (.slice e),[.slice .c0 []]=>(iQ P e).bind fun n=>some (.Gv n)
    |_,_=>none) else some (.iB l)
  |none=>some (.iB l)
 | .box t x=>(bH x).bind fun x=>some (.box x)
 | .build t parts=>match P.underlying t with
  |some (.struct fs)=>(P.info? t).bind fun i=>i.zero.bind fun z=>(kv z.cells.toList).bind fun l=>(tn P fs parts.toList).bind fun ps =>
   if fs.all (fun f=>(P.info? f.type).isSome) then some (.build l ps) else none
  |some (.array _ e)=>(P.info? t).bind fun i=>i.zero.bind fun z=>(kv z.cells.toList).bind fun l=>(iQ P e).bind fun n=>(py n parts.toList).bind fun ps=>some (.build l ps)
  |_=>none
 | .buildSlice t len parts=>match P.underlying t with
  |some (.slice e)=>(P.info? e).bind fun i=>(AK 0 parts.toList).bind fun l =>
   if l.length=len/\len*i.size<=2 ^ 24/\(i.zero.map fun z=>z.cells.size)=some i.size/\0<i.size then some (match o.dst with|some d=>if own.contains d then .wK i.size l else .lits i.size l|none => .lits i.size l) else none
  |_=>none
 | .load t x=>(vg P t).bind fun g=>(iQ P t).bind fun n=>(bH x).bind fun x=>some (if g then .eT n x else .cY x)
 | .store t a x=>(iQ P t).bind fun n=>(bH a).bind fun a=>(bH x).bind fun x=>some (match a with
  | .tmp s=>match own.find? (fun m=>decide (1000000000<=m)&&decide (m % 1000=s)) with
   |some m => .um (m / 1000000 % 1000) (m / 1000 % 1000) n a x
   |none => .store n a x
  |_ => .store n a x)
 | .nilCheck x=>(bH x).bind fun x=>some (.Rb x)
 | .binOp op t x y _=>(bH x).bind fun x=>(bH y).bind fun y=>match P.underlying t with
  |some (.int _)|some .string=>(Gx op).bind fun b=>some (.bin b x y)
  |some .bool=>match op with
   | .eql=>some (.Wp false x y)
   | .neq=>some (.Wp true x y)
   |_=>none
  |some (.struct fs)=>if P.stoodInHeld t then none else (uJ P 0 fs.toList).bind fun ks=>match op with
   | .eql=>some (.Rk ks false x y)
   | .neq=>some (.Rk ks true x y)
   |_=>none
  |some (.array len e)=>match P.underlying e,op with
   |some (.int _),.eql=>if iQ P e=some 1 then some (.Rk (List.replicate len .i) false x y) else none
   |_,_=>none
  |_=>none
 | .unOp .not _ x=>(bH x).bind fun x=>some (.not x)
 | .unOp .neg _ x=>(bH x).bind fun x=>some (.neg x)
 | .convert s d x=>(bH x).bind fun x=>match P.underlying s,P.underlying d with
  |some (.int _),some (.int k)=>some (.conv k x)
  |some .string,some .string=>some (.same x)
  |some (.slice e),some .string=>match P.underlying e with|some (.int .u8)=>some (.b2s x)|_=>none
  |_,_=>none
 | .makeFunc (.func f) first caps=>if first.isEmpty then (mQ caps.toList).bind fun l=>some (.fn f l) else if caps.isEmpty then (mQ first.toList).bind fun l=>some (.vR f l) else none
 | .slice t x lo hi mx=>(bH x).bind fun x=>(vi lo).bind fun lo=>(vi hi).bind fun hi=>(vi mx).bind fun mx=>match P.underlying t with
  |some .string=>if mx.isNone then some (.pc x lo hi) else none
  |some (.slice e)=>(iQ P e).bind fun n=>if 0<n/\(mx.isNone\/hi.isSome) then some (.rz n x lo hi mx) else none
  |_=>none
 | .fieldAddr s x f=>match P.underlying s with
  |some (.struct fs)=>(fs[f]?).bind fun f=>(iQ P f.type).bind fun n=>(bH x).bind fun x=>if 0<n then some (.du f.offset x) else none
  |_=>none
 | .field s x f=>match P.underlying s with
  |some (.struct fs)=>(fs[f]?).bind fun f=>(vg P f.type).bind fun g=>(iQ P f.type).bind fun n=>(bH x).bind fun x=>some (if g then .tC f.offset n x else .tz f.offset x)
  |_=>none
 | .indexAddr t x i=>match P.underlying t with
  |some (.slice e)=>(iQ P e).bind fun n=>(bH x).bind fun x=>(bH i).bind fun i=>if 0<n then some (.mY n x i) else none
  |some (.array len e)=>(iQ P e).bind fun n=>(bH x).bind fun x=>(bH i).bind fun i=>if 0<n then some (.oS len n x i) else none
  |_=>none
 | .index t x i=>match P.underlying t with
  |some .string=>(bH x).bind fun x=>(bH i).bind fun i=>some (.oT x i)
  |_=>none
 | .extract x i=>(bH x).bind fun x=>some (.extract x i)
 | .call c=>IY P own o.dst o.type c
 | .makeMap _ none=>some .mkMap
 | .lookup t x i ok=>match P.underlying t with
  |some (.map k e)=>(wI P k).bind fun fk=>(P.info? e).bind fun ie=>ie.zero.bind fun zv=>(IJ zv).bind fun z=>(bH x).bind fun x=>(bH i).bind fun i=>some (.look fk z ok x i)
  |_=>none
 | .mapUpdate t m k v=>match P.underlying t with
  |some (.map kt _)=>(wI P kt).bind fun fk=>(bH m).bind fun m=>(bH k).bind fun k=>(bH v).bind fun v=>some (.cH fk m k v)
  |_=>none
 | .range t x=>match P.underlying t with
  |some .string=>(bH x).bind fun x=>some (.HT x)
  |_=>none
 | .next it true=>(bH it).bind fun it=>some (.yB it)
 | .makeInterface t x=>(bH x).bind fun x=>match P.underlying t with
  |some (.interface _)=>none
  |some _=>some (.iface t x)
  |none=>none
 | .panic x=>(bH x).bind fun x=>some (.raise x)
 | .insert t m k v=>match P.underlying t with
  |some (.map kt _)=>(wI P kt).bind fun fk=>(bH m).bind fun m=>(bH k).bind fun k=>(IZ v).bind fun v=>some (.cH fk m k v)
  |_=>none
 | .makeSlice t (.tmp x) (.tmp y)=>match P.underlying t with
  |some (.slice e)=>(P.info? e).bind fun i=>i.zero.bind fun z=>(kv z.cells.toList).bind fun l=>(bH (.tmp x)).bind fun x' =>
   if x=y/\l.length=i.size/\0<i.size/\i.bytes<=8*i.size then some (match o.dst with|some d=>if own.contains (5000000+d) then .Hw (l.map ae.shut) x' else .Y0 (l.map ae.shut) x'|none => .Y0 (l.map ae.shut) x') else none
  |_=>none
 |_=>none
structure xn where
 n:Nat
 own:List Nat:=[]
 lv:List (Nat×List Nat)
 lp:List (Nat×List Nat):=[]
def find(l:List (Nat×List Nat))(k:Nat):List Nat:=match l with
 | []=>[]
 |(i,x)::r=>if i=k then x else find r k
def Uy(n:Nat):Option Nat->Bool
 |some d=>decide (d<n)
 |none=>true
def EP(P:Program)(A:xn)(ops:Array Oper)(grow:Bool)(o:Oper):Option aX :=
 (Ie P A.own o).bind fun op =>
  if Uy A.n o.dst then
   match o.guard with
   |none=>some { dst:=o.dst,op,guard:=none,grow }
   |some (k,want)=>((ops[k]?).bind (·.dst)).bind fun t=>if t<A.n then some { dst:=o.dst,op,guard:=some (t,want),grow } else none
  else none
def lg(P:Program)(A:xn)(ops:Array Oper)(grow:List Bool):List Oper->Option (List aX)
 | []=>some []
 |o::r=>(EP P A ops (grow.headD false) o).bind fun x=>(lg P A ops grow.tail r).bind fun l=>some (x::l)
def gb:Code->Nat
 | .region id _ _=>id
 | .seq a _=>gb a
 | .block _ c=>gb c
 | .loop c=>gb c
 | .cond _ a _=>gb a
 |_=>0
def cR.eV:cR->List Nat
 | .tmp t=>[t]
 | .ep _=>[]
def ua:Option cR->List Nat
 |some x=>x.eV
 |none=>[]
def eu.eV:eu->List Nat
 | .mv x | .own _ x | .box x | .eT _ x | .cY x | .Rb x | .not x | .neg x | .conv _ x | .same x | .du _ x | .tC _ _ x | .tz _ x | .extract x _ | .Hn x | .wJ x | .b2s x | .Hm x | .HT x | .yB x | .tp _ _ x | .iface _ x | .raise x | .Y0 _ x | .Hw _ x=>x.eV
 | .pick c a b=>c.eV++(a.eV++b.eV)
 | .iB _ | .mkMap | .Gv _=>[]
 | .build _ ps=>ps.flatMap fun p=>p.2.2.eV
 | .lits _ ps | .wK _ ps=>ps.flatMap cR.eV
 | .store _ a x | .um _ _ _ a x=>a.eV++x.eV
 | .cH _ m k v=>m.eV++(k.eV++v.eV)
 | .bin _ x y | .look _ _ _ x y | .Rk _ _ x y | .Wp _ x y | .mY _ x y | .oS _ _ x y | .oT x y | .append _ _ x y | .nD _ _ x y | .rm _ x y | .pr _ _ _ x y | .xU _ x y=>x.eV++y.eV
 | .fn _ l | .vR _ l=>l.flatMap cR.eV
 | .pc x l h=>x.eV++(ua l++ua h)
 | .rz _ x l h m=>x.eV++(ua l++(ua h++ua m))
 | .call _ l | .uC _ l | .eE _ l | .nW _ l=>l.flatMap cR.eV
 | .nY f l=>f.eV++l.flatMap cR.eV
def eu.Lx:eu->Bool
 | .own .. | .wK .. | .Hw .. | .pr .. | .xU .. | .Gv _ | .iB _ | .box _ | .store .. | .um .. | .call .. | .nY .. | .uC .. | .eE .. | .nW .. | .tp .. | .append .. | .nD .. | .mkMap | .cH .. | .Hm _ | .HT _ | .yB _=>true
 |_=>false
def eu.Ih:eu->Bool
 | .eT .. | .cY _ | .look .. => true
 |_=>false
def aX.reads(o:aX):List Nat:=o.op.eV++(match o.guard with|some (t,_)=>[t]|none=>[])
def oZ(acc:List Nat):List Edge->Nat
 | []=>0
 |e::r=>if Region.binds .any e then oZ acc r ||| (2 ^ e.on ||| (nth acc e.on).getD 0) else oZ acc r
def vN:List Oper->List Nat->List Nat
 | [],acc=>acc
 |o::r,acc=>vN r (acc++[oZ acc o.after.toList])
def jb(ops:List Oper):List Nat:=vN ops []
def ahead(bs:List Nat)(i k:Nat):Bool:=((nth bs k).getD 0).testBit i
def meet(x y:aX):Bool :=
 (match x.dst with|some d=>y.reads.contains d||y.dst==some d|none=>false)||(match y.dst with|some d=>x.reads.contains d|none=>false)
def fenced(bs:List Nat)(l:List aX)(k:Nat):Bool:=(List.range l.length).all fun i=>match nth l i with
 |some x => !x.op.Ih||(if i<k then ahead bs i k else i==k||ahead bs k i)
 |none=>true
def eu.oU:eu->Bool
 | .call .. | .nY .. => true
 |_=>false
def ordered(bs:List Nat)(i k:Nat):Bool:=i==k||(if i<k then ahead bs i k else ahead bs k i)
def alone(bs:List Nat)(l:List aX)(k:Nat):Bool:=(List.range l.length).any fun i=>match nth l i with
 |some x=>x.op.Lx && !ordered bs i k
 |none=>false
def eu.F3:eu->Option Nat
 | .cY (.tmp z)=>some z
 | .eT _ (.tmp z)=>some z
 | .look _ _ _ (.tmp z) _=>some z
 |_=>none
def eu.ak4:eu->Bool
 | .store .. => true
 | .append .. | .nD .. => true
 |_=>false
def aeI(l:List aX)(i k z:Nat):Bool:=(List.range k).all fun p=>decide (p<i)||match nth l p with|some x=>x.dst != some z|none=>true
def Et(bs:List Nat)(l:List aX)(k:Nat):Bool:=(List.range l.length).all fun i=>i==k||(if i<k then (ahead bs i k||match nth l i with|some x => !x.op.Lx|none=>false) else ahead bs k i)
def F2(bs:List Nat)(l:List aX)(k:Nat):List Nat:=(List.range k).filterMap fun i=>match nth l i with
 |some x=>if x.op.Ih && !ahead bs i k then x.op.F3 else none
 |none=>none
def vz(bs:List Nat)(l:List aX)(k:Nat)(sep:List Nat):Bool:=(List.range l.length).all fun i=>match nth l i with
 |some x => !x.op.Ih||i==k||(if i<k then (ahead bs i k||match x.op.F3 with|some z=>sep.contains z&&aeI l i k z|none=>false) else ahead bs k i)
 |none=>true
def ij(bs:List Nat)(l:List aX):Nat->List aX->List aX
 |_,[]=>[]
 |k,x::r=>{ x with grow:=x.op.Lx && !(x.op.oU&&alone bs l k) && !fenced bs l k,oh:=x.op.oU&&alone bs l k,sep:=if x.op.ak4 && !fenced bs l k&&vz bs l k (F2 bs l k) then F2 bs l k else [],stop := !x.op.I0||Et bs l k }::ij bs l (k+1) r
def aX.lV(x:aX):Bool:=x.op.Lx && !x.oh
def Ec:eu->Bool
 | .cY (.ep _) | .eT _ (.ep _) | .look _ _ _ (.ep _) _=>false
 |_=>true
def uM(ops:Array Oper)(l:List aX)(k:Nat):Bool:=match ops[k]?,nth l k with
 |some o,some y=>(match y.op with
  | .iB _=>(match o.op with | .alloc _=>true|_=>false)
  | .nW .. => (match o.op with | .call c=>(match c.callee with | .value (.func _)=>true|_=>false)|_=>false)
  |_=>false)&&y.guard.isNone
 |_,_=>false
def zR(ops:Array Oper)(bs:List Nat)(l:List aX):Bool:=(List.range l.length).all fun k=>match nth l k,ops[k]? with
 |some y,some o=>o.after.toList.all (fun e => !Region.binds .any e||decide (e.on<k))&&((!y.oh||y.op.oU)&&Ec y.op)&&((!(y.lV && !y.grow)||fenced bs l k)&&(y.sep.isEmpty||vz bs l k y.sep)) &&
  ((!y.lets||Et bs l k)&&(List.range k).all fun i=>match nth l i with
   |some x=>(!meet x y||ahead bs i k)&&(!(x.lV&&y.lV)||(ahead bs i k||(uM ops l i&&uM ops l k)))
   |none=>false)
 |_,_=>false
def tZ(ops:Array Oper)(l:List aX):Option (List aX) :=
 if zR ops (jb ops.toList) (ij (jb ops.toList) l 0 l) then some (ij (jb ops.toList) l 0 l) else none
def comp(P:Program)(A:xn):Code->Option aO
 | .skip=>some .skip
 | .region id ops draw=>if draw then
   (lg P { A with own:=A.own.filter (1000000 <= ·) } ops [] ops.toList).bind fun l0=>(tZ ops l0).bind fun l=>some (.region l true (find A.lv id))
  else (lg P A ops [] ops.toList).bind fun l=>some (.region l false (find A.lv id))
 | .seq a b=>(comp P A a).bind fun x=>(comp P A b).bind fun y=>some (.seq x y)
 | .cond c a b=>(bH c).bind fun c=>(comp P A a).bind fun x=>(comp P A b).bind fun y=>some (.cond c x y)
 | .block id c=>(comp P A c).bind fun x=>some (.block id x)
 | .loop c=>(comp P A c).bind fun x=>some (.loop (find A.lp (gb c)) x)
 | .exit id=>some (.exit id)
 | .ret=>some .ret
 |_=>none
def AJ(P:Program):List ResultVar->Option (List km)
 | []=>some []
 | .tmp t::r=>(AJ P r).bind fun l=>some (.tmp t::l)
 | .cell a t::r=>(vg P t).bind fun g=>(iQ P t).bind fun n=>(AJ P r).bind fun l=>some ((if g then .bl a n else .Ur a)::l)
def iq(P:Program)(A:xn)(fn:Func):Option bD :=
 match fn.body with
 |none=>none
 |some c=>if fn.name != "runtime.NumGoroutine" /\ A.n=fn.ntmps/\fn.params.size+fn.nfree<=fn.ntmps then
   (comp P A c).bind fun b=>(AJ P fn.results.toList).bind fun r=>some { nparams:=fn.params.size+fn.nfree,results:=r,body:=b }
  else none
end
section
open Go
def ahD(x:Operand)(s:Nat):Nat:=match x with
 | .tmp t=>s ||| (1 <<< t)
 |_=>s
def opB(ops:Array Oper)(o:Oper)(s:Nat):Nat :=
 let s:=match o.dst,o.guard with
  |some d,none=>if s.testBit d then s-(1 <<< d) else s
  |_,_=>s
 let s:=o.op.operands.toList.foldl (fun s x=>ahD x s) s
 match o.guard with
 |some (k,_)=>match (ops[k]?).bind (·.dst) with
  |some t=>s ||| (1 <<< t)
  |none=>s
 |none=>s
def anV(ops:Array Oper)(out:Nat):Nat :=
 let l:=ops.toList.foldr (opB ops) out
 let g:=ops.toList.foldl (fun g o=>match o.dst,o.guard with
  |some d,some _=>g ||| (1 <<< d)
  |_,_=>g) 0
 let d:=g ^^^ (g &&& out)
 l ^^^ (l &&& d)
def FF:List (Nat×Nat)->Nat->Nat
 | [],_=>0
 |(i,x)::r,k=>if i=k then x else FF r k
def sg(ret:Nat):Code->List (Nat×Nat)->Nat->Nat×List (Nat×Nat)×List (Nat×Nat)
 | .skip,_,out=>(out,[],[])
 | .region id ops _,_,out=>(anV ops out,[(id,out)],[])
 | .seq a b,ex,out =>
  let y:=sg ret b ex out
  let x:=sg ret a ex y.1
  (x.1,x.2.1++y.2.1,x.2.2++y.2.2)
 | .cond c a b,ex,out =>
  let x:=sg ret a ex out
  let y:=sg ret b ex out
  (ahD c (x.1 ||| y.1),x.2.1++y.2.1,x.2.2++y.2.2)
 | .block id c,ex,out=>sg ret c ((id,out)::ex) out
 | .loop c,ex,_ =>
  let h1:=(sg ret c ex 0).1
  let h2:=h1 ||| (sg ret c ex h1).1
  let z:=sg ret c ex h2
  let h3:=h2 ||| z.1
  (h3,z.2.1,(gb c,h3)::z.2.2)
 | .exit id,ex,_=>(FF ex id,[],[])
 | .ret,_,_=>(ret,[],[])
 |_,_,out=>(out,[],[])
def acy(n s:Nat):List Nat:=(List.range n).filter s.testBit
def xL(own:List Nat)(fn:Func):xn:=match fn.body with
 |none=>{ n:=0,lv:=[] }
 |some c =>
  let r:=fn.results.toList.foldl (fun s x=>match x with
   | .tmp t=>s ||| (1 <<< t)
   | .cell t _=>s ||| (1 <<< t)) 0
  let z:=sg r c [] r
  let f:=fun(p:Nat×Nat)=>(p.1,acy fn.ntmps p.2)
  { n:=fn.ntmps,own:=own,lv:=z.2.1.map f,lp:=z.2.2.map f }
def aO.size:aO->Nat
 | .seq a b=>a.size+b.size+1
 | .cond _ a b=>a.size+b.size+1
 | .block _ a=>a.size+1
 | .loop _ a=>a.size+1
 | .region .. => 1
 | .skip=>1
 | .exit _=>1
 | .ret=>1
def aO.lY:aO->List aO
 | .seq a b => .seq a b::(a.lY++b.lY)
 | .cond c a b => .cond c a b::(a.lY++b.lY)
 | .block i a => .block i a::a.lY
 | .loop l a => .loop l a::a.lY
 |c=>[c]
def sub(c:aO)(i:Nat):aO:=(c.lY[i]?).getD .skip
def ref(r:aO)(i:Nat):aO->aO
 | .skip => .skip
 | .exit n => .exit n
 | .ret => .ret
 | .region .. => sub r i
 | .seq .. => sub r i
 | .cond .. => sub r i
 | .block .. => sub r i
 | .loop .. => sub r i
def vl(r:aO)(i:Nat):aO->aO
 | .region a b c => .region a b c
 | .skip => .skip
 | .exit n => .exit n
 | .ret => .ret
 | .seq .. => sub r i
 | .cond .. => sub r i
 | .block .. => sub r i
 | .loop .. => sub r i
abbrev Hd(q b:aO):Prop:=∀(C:bL)(fn:List km)(base:Nat)(k:List K)(env:Env)(M:aj),bS C fn base k q env M=bS C fn base k b env M
def xy(e:Prop):aO->Prop
 | .region .. => True
 | .skip | .exit _ | .ret=>True
 | .seq .. => e
 | .cond .. => e
 | .block .. => e
 | .loop .. => e
def eqs(r:aO):Nat->aO->Prop
 |i,.seq a b=>Hd (sub r i) (.seq (vl r (i+1) a) (ref r (i+1+a.size) b))/\(xy (eqs r (i+1) a) a/\eqs r (i+1+a.size) b)
 |i,.cond c a b=>Hd (sub r i) (.cond c (ref r (i+1) a) (ref r (i+1+a.size) b))/\(eqs r (i+1) a/\eqs r (i+1+a.size) b)
 |i,.block n a=>Hd (sub r i) (.block n (ref r (i+1) a))/\eqs r (i+1) a
 |i,.loop n a=>Hd (sub r i) (.loop n (ref r (i+1) a))/\eqs r (i+1) a
 |i,.region a b c=>Hd (sub r i) (.region a b c)
 |_,.skip=>True
 |_,.exit _=>True
 |_,.ret=>True
def jr:∀c:aO,c.lY.length=c.size
 | .seq a b=>by simp[aO.lY,aO.size,jr a,jr b]
 | .cond _ a b=>by simp[aO.lY,aO.size,jr a,jr b]
 | .block _ a=>by simp[aO.lY,aO.size,jr a]
 | .loop _ a=>by simp[aO.lY,aO.size,jr a]
 | .region .. | .skip | .exit _ | .ret=>by simp[aO.lY,aO.size]
def Z0(c:aO):c.lY[0]?=some c:=by cases c<;>simp[aO.lY]
def At(r:aO)(i:Nat)(c:aO):Prop:=∀j,j<c.size->r.lY[i+j]?=c.lY[j]?
def size_pos(c:aO):0<c.size:=by cases c<;>simp[aO.size]
def At.sub{r c:aO}{i:Nat}(h:At r i c):sub r i=c:=by
 have:=h 0 (size_pos c);rw[Nat.add_zero,Z0] at this;simp[Abs.sub,this]
def At.ref{r c:aO}{i:Nat}(h:At r i c):ref r i c=c:=by
 cases c<;>first|rfl|exact h.sub
def At.vl{r c:aO}{i:Nat}(h:At r i c):vl r i c=c:=by
 cases c<;>first|rfl|exact h.sub
def Rn{e:Prop}{c:aO}(h:e):xy e c:=by
 cases c<;>first|trivial|exact h
def At.two{r a b x:aO}{i:Nat}(h:At r i x)(hx:x.lY=x::(a.lY++b.lY))(hs:x.size=a.size+b.size+1):At r (i+1) a/\At r (i+1+a.size) b:=by
 refine⟨fun j hj=>?_,fun j hj=>?_⟩
 ·have:=h (j+1) (by omega)
  rw[hx,List.getElem?_cons_succ,List.getElem?_append_left (by rw[jr]; exact hj)] at this
  rw[<-this]; congr 1; omega
 ·have:=h (a.size+j+1) (by omega)
  rw[hx,List.getElem?_cons_succ,List.getElem?_append_right (by rw[jr]; omega),jr] at this
  rw[show a.size+j-a.size=j by omega] at this
  rw[<-this]; congr 1; omega
def At.one{r a x:aO}{i:Nat}(h:At r i x)(hx:x.lY=x::a.lY)(hs:x.size=a.size+1):At r (i+1) a:=by
 intro j hj;have:=h (j+1) (by omega)
 rw[hx,List.getElem?_cons_succ] at this;rw[<-this]; congr 1; omega
def BF{q b:aO}(h:q=b):Hd q b:=eF h
def qY(r:aO):∀(c:aO)(i:Nat),At r i c->eqs r i c
 | .seq a b,i,h=>by
  obtain⟨h1,h2⟩:=h.two (a:=a) (b:=b) rfl rfl;exact⟨BF (by rw[h.sub,h1.vl,h2.ref]),Rn (qY r a _ h1),qY r b _ h2⟩
 | .cond c a b,i,h=>by
  obtain⟨h1,h2⟩:=h.two (a:=a) (b:=b) rfl rfl;exact⟨BF (by rw[h.sub,h1.ref,h2.ref]),qY r a _ h1,qY r b _ h2⟩
 | .block n a,i,h=>by
  have h1:=h.one (a:=a) rfl rfl;exact⟨BF (by rw[h.sub,h1.ref]),qY r a _ h1⟩
 | .loop n a,i,h=>by
  have h1:=h.one (a:=a) rfl rfl;exact⟨BF (by rw[h.sub,h1.ref]),qY r a _ h1⟩
 | .region ..,_,h=>BF h.sub
 | .skip,_,_=>trivial
 | .exit _,_,_=>trivial
 | .ret,_,_=>trivial
def aaO(r:aO):At r 0 r:=fun j _=>by rw[Nat.zero_add]
def vW[ew](P:Program)(A:xn):Code->Option aO
 | .skip=>some .skip
 | .region id ops draw=>if draw then
   (lg P { A with own:=A.own.filter (1000000 <= ·) } ops [] ops.toList).bind fun l=>some (.region (ij (jb ops.toList) l 0 l) true (find A.lv id))
  else (lg P A ops [] ops.toList).bind fun l=>some (.region l false (find A.lv id))
 | .seq a b=>(vW P A a).bind fun x=>(vW P A b).bind fun y=>some (.seq x y)
 | .cond c a b=>(bH c).bind fun c=>(vW P A a).bind fun x=>(vW P A b).bind fun y=>some (.cond c x y)
 | .block id c=>(vW P A c).bind fun x=>some (.block id x)
 | .loop c=>(vW P A c).bind fun x=>some (.loop (find A.lp (gb c)) x)
 | .exit id=>some (.exit id)
 | .ret=>some .ret
 |_=>none
def ac5[ew](P:Program)(A:xn)(fn:Func):Option aO:=match fn.body with
 |some c=>vW P A c
 |none=>none
abbrev Cv[ew](P:Program)(A:xn)(f:Func):={ g:aO // ac5 P A f=some g }
def okc{o:Option bD}{n:Nat}{r:List km}{c:aO}(h:o=some (bD.mk n r c)):o=some (bD.mk n r (sub c 0)):=by
 rw[h,(aaO c).sub]
set_option linter.defProp false in
def bZ:=And.intro @eqs.eq_1 (And.intro @eqs.eq_2 (And.intro @eqs.eq_3 (And.intro @eqs.eq_4 (And.intro @eqs.eq_5 (And.intro @eqs.eq_6 (And.intro @eqs.eq_7 (And.intro @eqs.eq_8 (And.intro @ref.eq_1 (And.intro @ref.eq_2 (And.intro @ref.eq_3 (And.intro @ref.eq_4 (And.intro @ref.eq_5 (And.intro @ref.eq_6 (And.intro @ref.eq_7 (And.intro @ref.eq_8 (And.intro @vl.eq_1 (And.intro @vl.eq_2 (And.intro @vl.eq_3 (And.intro @vl.eq_4 (And.intro @vl.eq_5 (And.intro @vl.eq_6 (And.intro @vl.eq_7 (And.intro @vl.eq_8 (And.intro @xy.eq_1 (And.intro @xy.eq_2 (And.intro @xy.eq_3 (And.intro @xy.eq_4 (And.intro @xy.eq_5 (And.intro @xy.eq_6 (And.intro @xy.eq_7 (And.intro @xy.eq_8 (And.intro @aO.size.eq_1 (And.intro @aO.size.eq_2 (And.intro @aO.size.eq_3 (And.intro @aO.size.eq_4 (And.intro @aO.size.eq_5 (And.intro @aO.size.eq_6 (And.intro @aO.size.eq_7 (And.intro @aO.size.eq_8 (And.intro @and_true (@true_and)))))))))))))))))))))))))))))))))))))))))
end
end Go.Abs
namespace Go.Proofs.YtahkjijkflobhaaGreatDoor
open Go Go.Abs
def A6:Value := .iface 177 (.agg #[.pointer (some ⟨2,70,none⟩)])
instance:ew where
 g:=fun b=>match b with
  |0=>some [A6]
  |_=>none
 u8:=5
def adH:Func:={ name := "",origin := "",params := #[],resultTypes := #[],nfree:=0,ntmps:=0,results := #[],body:=some .skip,norace:=false,tmpNames := #[] }
noncomputable def ahq:Program:={ toTables:={ goVersion := "",platform := "",initOrder := "",godebug := "",types:=Tryz.types,rt:=Tryz.progTables.rt,cutTypes := #[],globals := #[],inits := #[],main:=0 },funcs:=⟨List.replicate 900 adH⟩ }
abbrev Ko(own:List Nat)(f:Func):=Cv ahq (xL own f) f
abbrev bO(own:List Nat)(f:Func)(c:bD):Prop:=iq Tryz.prog (xL own f) f=some c
section
open Go.ChangeShapes Go.WideShapes Go.RowKit
def ahg:ownKnob Tryz.prog.godebug=none:=by kernel_rfl
abbrev Oe:List (String×DataW Unit):=[("errors.errorType",Rows.laid_errors_errorType)]
def Qt:J:=⟨fun _=>none,fun _ _=>False⟩
def anW(W:World):Rel Qt [] W where
 inj:=fun _ _ _ h=>by cases h
 lt:=fun _ _ h=>by cases h
 fix:=fun _ _ h=>by cases h
 tick:=fun _ _ _ _ h=>by cases h
 arr:=fun _ _ _ _ h=>by cases h
 mN:=fun _ _ h=>by cases h
 tb:=fun _ _ h=>h.elim
def ES{w:World}{b off:Nat}{v:Value}(h:w.cell? ⟨b,off,none⟩=some v):b<w.heap.size:=by
 rcases Nat.lt_or_ge b w.heap.size with hb|hb
 ·exact hb
 ·simp[World.cell?,Array.getElem?_eq_none hb] at h
def Y8:((List.range Tryz.prog.types.size).filter fun t=>Tryz.prog.rowNamed t [101,114,114,111,114])=[70]:=by kernel_rfl
def UR{W:World}(hL:laidMetH Tryz.prog Oe W)(hsh:W.ShapedOpen Tryz.prog):ke Qt [] W:=by
 have h':laidMet Tryz.prog [] W/\handlesMet Tryz.prog Oe W:=hL;obtain⟨name,u,ty,e1,e2,e3,e4,e5⟩:=h'.2 _ (List.mem_singleton.2 rfl);have en:name=[101,114,114,111,114]:=(Option.some.inj e1).symm;subst en;obtain rfl:=Option.some.inj ((show(Tryz.prog.cutTypes.find? (·.1 == "internal/reflectlite.rtype")).map (·.2)=some 177 by kernel_rfl).symm.trans e2)
 have hm:ty∈(List.range Tryz.prog.types.size).filter fun t=>Tryz.prog.rowNamed t [101,114,114,111,114]:=List.mem_filter.2 ⟨List.mem_range.2 e3,e4⟩
 rw[Y8] at hm;obtain rfl:=List.mem_singleton.1 hm;rw[show typeHandle Tryz.prog 70 = .pointer (some ⟨2,70,none⟩) by kernel_rfl] at e5
 have hc:W.cell? ⟨0,0,none⟩=some A6:=by simpa[A6] using World.var?_cell (show Tryz.prog.globalNamed "errors.errorType" = some 0 by kernel_rfl) e5 0
 obtain⟨⟨zero,t'⟩,hz,he⟩:=Option.map_eq_some_iff.1 (show(((begin Tryz.prog (fun _ _=>0) default).world.heap[0]?).bind Obj.row?).map (fun x=>x.1.size)=some 1 by kernel_rfl)
 obtain⟨cs,h1,h2,_⟩:=hsh.1 0 zero t' (of_decide_eq_true (by kernel_rfl)) hz
 refine⟨fun b vs k v hb hk=>?_,fun b vs hb=>?_,fun b p hb=>by cases hb⟩
 ·match b,hb with
  |0,hb =>
   cases hb
   match k,hk with
   |0,hk=>cases hk; exact⟨⟨ES hc,fun id hid=>by simp at hid,fun h=>h⟩,hc⟩
 ·match b,hb with
  |0,hb=>cases hb; exact⟨cs,_,_,h1,h2.trans he⟩
noncomputable def jJ(os:Os):World :=
 let w0:=World.holding Tryz.prog os ⟨#[],#[],[]⟩
 { w0 with heap:=w0.heap.modify 0 fun
   | .cells _ t frozen => .cells #[A6] t frozen
   |o=>o }
def BV(os:Os)(args:Array Value):laidMetH Tryz.prog Oe ((jJ os).forCall (fun _ _=>0) ⟨#[],args,[]⟩).memory :=
 laidMetH_of_parts (laidMet_nil _ _) (by kernel_rfl)
end
end Go.Proofs.YtahkjijkflobhaaGreatDoor
set_option linter.defProp false
set_option maxRecDepth 100000
namespace Go.Proofs.YtahkjijkflobhaaGreatDoor
open Go Go.Abs
def bP{o:Option bD}{n:Nat}{r:List km}{c:aO}(h:o=some (bD.mk n r c):=by kernel_rfl):o=some (bD.mk n r (sub c 0)):=okc h
def cd(r k:aO)(h:At r 0 k:=by exact aaO _):eqs r 0 k:=qY r k 0 h
def NV:Ko [] Tryz.f253:=by apply Subtype.mk; cbv
def ach:=NV.1
def K0:=bD.mk 1 [.tmp 2] (sub ach 0)
def agW:bO [] Tryz.f253 K0:=bP
def aaH:=by
 have h:=cd ach NV.1;simp only[NV,bZ,simprocAttr] at h;exact h
def NK:Ko [] Tryz.f243:=by apply Subtype.mk; cbv
def aca:=NK.1
def KU:=bD.mk 2 [.tmp 4,.tmp 5] (sub aca 0)
def agM:bO [] Tryz.f243 KU:=bP
def ail:=by
 have h:=cd aca NK.1;simp only[NK,bZ,simprocAttr] at h;exact h
def My:Ko [] Tryz.f162:=by apply Subtype.mk; cbv
def abo:=My.1
def JZ:=bD.mk 2 [.bl 4 6,.tmp 5] (sub abo 0)
def afF:bO [] Tryz.f162 JZ:=bP
def Vs:=by
 have h:=cd abo My.1;simp only[My,bZ,simprocAttr] at h;exact h
def Nl:Ko [] Tryz.f206:=by apply Subtype.mk; cbv
def abV:=Nl.1
def Ky:=bD.mk 2 [.bl 4 6,.tmp 5] (sub abV 0)
def agn:bO [] Tryz.f206 Ky:=bP
def QH:=by
 have h:=cd abV Nl.1;simp only[Nl,bZ,simprocAttr] at h;exact h
def Nn:Ko [] Tryz.f207:=by apply Subtype.mk; cbv
def V4:=Nn.1
def x8:=bD.mk 1 [.tmp 2] (sub V4 0)
def ago:bO [] Tryz.f207 x8:=bP
abbrev FD:=sub V4 15
def om:=by
 have h:=cd V4 Nn.1;simp only[Nn,bZ,simprocAttr] at h;exact h
def NZ:Ko [] Tryz.f261:=by apply Subtype.mk; cbv
def Wf:=NZ.1
def K3:=bD.mk 3 [.tmp 6,.tmp 7] (sub Wf 0)
def ag1:bO [] Tryz.f261 K3:=bP
abbrev SD:=sub Wf 9
def An:=by
 have h:=cd Wf NZ.1;simp only[NZ,bZ,simprocAttr] at h;exact h
def N0:Ko [] Tryz.f262:=by apply Subtype.mk; cbv
def ack:=N0.1
def K4:=bD.mk 2 [.tmp 4] (sub ack 0)
def ag2:bO [] Tryz.f262 K4:=bP
def aio:=by
 have h:=cd ack N0.1;simp only[N0,bZ,simprocAttr] at h;exact h
def N1:Ko [] Tryz.f263:=by apply Subtype.mk; cbv
def acm:=N1.1
def K5:=bD.mk 2 [.tmp 4] (sub acm 0)
def ag3:bO [] Tryz.f263 K5:=bP
def aip:=by
 have h:=cd acm N1.1;simp only[N1,bZ,simprocAttr] at h;exact h
def Np:Ko [] Tryz.f208:=by apply Subtype.mk; cbv
def abW:=Np.1
def Kz:=bD.mk 2 [.tmp 4,.tmp 5] (sub abW 0)
def agp:bO [] Tryz.f208 Kz:=bP
def aib:=by
 have h:=cd abW Np.1;simp only[Np,bZ,simprocAttr] at h;exact h
def L9:Ko [] Tryz.f130:=by apply Subtype.mk; cbv
def aa9:=L9.1
def JL:=bD.mk 3 [.tmp 6,.tmp 7] (sub aa9 0)
def afa:bO [] Tryz.f130 JL:=bP
def CP:=by
 have h:=cd aa9 L9.1;simp only[L9,bZ,simprocAttr] at h;exact h
def Yg:Ko [] Tryz.f86:=by apply Subtype.mk; cbv
def b86:=Yg.1
def WT:=bD.mk 2 [.bl 4 6,.tmp 5] (sub b86 0)
def anB:bO [] Tryz.f86 WT:=bP
def E86:=by
 have h:=cd b86 Yg.1;simp only[Yg,bZ,simprocAttr] at h;exact h
def Nq:Ko [9] Tryz.f209:=by apply Subtype.mk; cbv
def V5:=Nq.1
def KA:=bD.mk 2 [.tmp 4] (sub V5 0)
def agq:bO [9] Tryz.f209 KA:=bP
abbrev Sm:=sub V5 7
def va:=by
 have h:=cd V5 Nq.1;simp only[Nq,bZ,simprocAttr] at h;exact h
def NW:Ko [] Tryz.f254:=by apply Subtype.mk; cbv
def aci:=NW.1
def K1:=bD.mk 2 [.tmp 4] (sub aci 0)
def agX:bO [] Tryz.f254 K1:=bP
def ain:=by
 have h:=cd aci NW.1;simp only[NW,bZ,simprocAttr] at h;exact h
def Nc:Ko [1000255,1000256] Tryz.f197:=by apply Subtype.mk; cbv
def abN:=Nc.1
def Kr:=bD.mk 2 [] (sub abN 0)
def age:bO [1000255,1000256] Tryz.f197 Kr:=bP
def Vy:=by
 have h:=cd abN Nc.1;simp only[Nc,bZ,simprocAttr] at h;exact h
def NX:Ko [1000255,1000294] Tryz.f258:=by apply Subtype.mk; cbv
def acj:=NX.1
def K2:=bD.mk 2 [] (sub acj 0)
def agY:bO [1000255,1000294] Tryz.f258 K2:=bP
def VD:=by
 have h:=cd acj NX.1;simp only[NX,bZ,simprocAttr] at h;exact h
def Nd:Ko [1000214,1000257,2000197] Tryz.f198:=by apply Subtype.mk; cbv
def abO:=Nd.1
def Ks:=bD.mk 4 [] (sub abO 0)
def agf:bO [1000214,1000257,2000197] Tryz.f198 Ks:=bP
def Iu:=by
 have h:=cd abO Nd.1;simp only[Nd,bZ,simprocAttr] at h;exact h
def Nj:Ko [1000214,1000260,2000197] Tryz.f204:=by apply Subtype.mk; cbv
def abT:=Nj.1
def Kw:=bD.mk 3 [] (sub abT 0)
def agl:bO [1000214,1000260,2000197] Tryz.f204 Kw:=bP
def QG:=by
 have h:=cd abT Nj.1;simp only[Nj,bZ,simprocAttr] at h;exact h
def Nk:Ko [] Tryz.f205:=by apply Subtype.mk; cbv
def abU:=Nk.1
def Kx:=bD.mk 2 [] (sub abU 0)
def agm:bO [] Tryz.f205 Kx:=bP
def Vz:=by
 have h:=cd abU Nk.1;simp only[Nk,bZ,simprocAttr] at h;exact h
def Nb:Ko [] Tryz.f196:=by apply Subtype.mk; cbv
def abM:=Nb.1
def Kq:=bD.mk 3 [.tmp 6] (sub abM 0)
def agd:bO [] Tryz.f196 Kq:=bP
def Ak:=by
 have h:=cd abM Nb.1;simp only[Nb,bZ,simprocAttr] at h;exact h
def Ns:Ko [] Tryz.f211:=by apply Subtype.mk; cbv
def abY:=Ns.1
def KC:=bD.mk 2 [.tmp 4] (sub abY 0)
def ags:bO [] Tryz.f211 KC:=bP
def aaD:=by
 have h:=cd abY Ns.1;simp only[Ns,bZ,simprocAttr] at h;exact h
def Ng:Ko [] Tryz.f200:=by apply Subtype.mk; cbv
def abQ:=Ng.1
def Ku:=bD.mk 2 [.bl 4 3,.tmp 5] (sub abQ 0)
def agi:bO [] Tryz.f200 Ku:=bP
def aaC:=by
 have h:=cd abQ Ng.1;simp only[Ng,bZ,simprocAttr] at h;exact h
def NB:Ko [] Tryz.f227:=by apply Subtype.mk; cbv
def ab4:=NB.1
def KK:=bD.mk 3 [.bl 6 3,.tmp 7] (sub ab4 0)
def agC:bO [] Tryz.f227 KK:=bP
def QI:=by
 have h:=cd ab4 NB.1;simp only[NB,bZ,simprocAttr] at h;exact h
def L5:Ko [] Tryz.f126:=by apply Subtype.mk; cbv
def aa6:=L5.1
def JG:=bD.mk 4 [.bl 8 3,.tmp 9,.tmp 10] (sub aa6 0)
def ae6:bO [] Tryz.f126 JG:=bP
def Vn:=by
 have h:=cd aa6 L5.1;simp only[L5,bZ,simprocAttr] at h;exact h
def L7:Ko [] Tryz.f128:=by apply Subtype.mk; cbv
def aa7:=L7.1
def JI:=bD.mk 4 [.bl 8 3,.tmp 9] (sub aa7 0)
def ae8:bO [] Tryz.f128 JI:=bP
def Vo:=by
 have h:=cd aa7 L7.1;simp only[L7,bZ,simprocAttr] at h;exact h
def L8:Ko [] Tryz.f129:=by apply Subtype.mk; cbv
def aa8:=L8.1
def JJ:=bD.mk 3 [.bl 6 3,.tmp 7,.tmp 8] (sub aa8 0)
def ae9:bO [] Tryz.f129 JJ:=bP
def Ip:=by
 have h:=cd aa8 L8.1;simp only[L8,bZ,simprocAttr] at h;exact h
def N2:Ko [] Tryz.f264:=by apply Subtype.mk; cbv
def Wg:=N2.1
def K6:=bD.mk 2 [.tmp 4] (sub Wg 0)
def ag4:bO [] Tryz.f264 K6:=bP
abbrev SE:=sub Wg 7
def CV:=by
 have h:=cd Wg N2.1;simp only[N2,bZ,simprocAttr] at h;exact h
def Nr:Ko [] Tryz.f210:=by apply Subtype.mk; cbv
def abX:=Nr.1
def KB:=bD.mk 2 [.tmp 4] (sub abX 0)
def agr:bO [] Tryz.f210 KB:=bP
def aic:=by
 have h:=cd abX Nr.1;simp only[Nr,bZ,simprocAttr] at h;exact h
def N4:Ko [] Tryz.f266:=by apply Subtype.mk; cbv
def aco:=N4.1
def K8:=bD.mk 5 [.tmp 6] (sub aco 0)
def ag6:bO [] Tryz.f266 K8:=bP
def aaI:=by
 have h:=cd aco N4.1;simp only[N4,bZ,simprocAttr] at h;exact h
def Oa:Ko [] Tryz.f296:=by apply Subtype.mk; cbv
def Wi:=Oa.1
def Lb:=bD.mk 2 [.tmp 4] (sub Wi 0)
def ahc:bO [] Tryz.f296 Lb:=bP
abbrev SG:=sub Wi 7
def CX:=by
 have h:=cd Wi Oa.1;simp only[Oa,bZ,simprocAttr] at h;exact h
def N3:Ko [] Tryz.f265:=by apply Subtype.mk; cbv
def acn:=N3.1
def K7:=bD.mk 2 [.tmp 4] (sub acn 0)
def ag5:bO [] Tryz.f265 K7:=bP
def aiq:=by
 have h:=cd acn N3.1;simp only[N3,bZ,simprocAttr] at h;exact h
def Nt:Ko [] Tryz.f212:=by apply Subtype.mk; cbv
def abZ:=Nt.1
def KD:=bD.mk 3 [.tmp 6] (sub abZ 0)
def agt:bO [] Tryz.f212 KD:=bP
def aid:=by
 have h:=cd abZ Nt.1;simp only[Nt,bZ,simprocAttr] at h;exact h
def Ma:Ko [] Tryz.f131:=by apply Subtype.mk; cbv
def VR:=Ma.1
def JM:=bD.mk 5 [.bl 10 3,.tmp 11,.tmp 12] (sub VR 0)
def afb:bO [] Tryz.f131 JM:=bP
abbrev FV:=sub VR 86
def qP:=by
 have h:=cd VR Ma.1;simp only[Ma,bZ,simprocAttr] at h;exact h
def Mw:Ko [] Tryz.f160:=by apply Subtype.mk; cbv
def VU:=Mw.1
def Fc:=bD.mk 3 [.tmp 6,.tmp 7] (sub VU 0)
def afD:bO [] Tryz.f160 Fc:=bP
abbrev FC:=sub VU 9
def pU:=by
 have h:=cd VU Mw.1;simp only[Mw,bZ,simprocAttr] at h;exact h
def N7:Ko [] Tryz.f286:=by apply Subtype.mk; cbv
def acq:=N7.1
def La:=bD.mk 2 [.tmp 4] (sub acq 0)
def ag9:bO [] Tryz.f286 La:=bP
def ais:=by
 have h:=cd acq N7.1;simp only[N7,bZ,simprocAttr] at h;exact h
def Mu:Ko [] Tryz.f154:=by apply Subtype.mk; cbv
def abm:=Mu.1
def JX:=bD.mk 2 [.tmp 4] (sub abm 0)
def afy:bO [] Tryz.f154 JX:=bP
def aav:=by
 have h:=cd abm Mu.1;simp only[Mu,bZ,simprocAttr] at h;exact h
def NJ:Ko [] Tryz.f239:=by apply Subtype.mk; cbv
def ab9:=NJ.1
def KT:=bD.mk 1 [.tmp 2] (sub ab9 0)
def agK:bO [] Tryz.f239 KT:=bP
def aik:=by
 have h:=cd ab9 NJ.1;simp only[NJ,bZ,simprocAttr] at h;exact h
def XK:Ko [] Tryz.f41:=by apply Subtype.mk; cbv
def b41:=XK.1
def WK:=bD.mk 2 [.tmp 4] (sub b41 0)
def amT:bO [] Tryz.f41 WK:=bP
def E41:=by
 have h:=cd b41 XK.1;simp only[XK,bZ,simprocAttr] at h;exact h
def Yr:Ko [] Tryz.f98:=by apply Subtype.mk; cbv
def b98:=Yr.1
def W9:=bD.mk 2 [.tmp 4] (sub b98 0)
def anO:bO [] Tryz.f98 W9:=bP
def E98:=by
 have h:=cd b98 Yr.1;simp only[Yr,bZ,simprocAttr] at h;exact h
def Yt:Ko [] Tryz.f99:=by apply Subtype.mk; cbv
def b99:=Yt.1
def Xa:=bD.mk 2 [.tmp 4] (sub b99 0)
def anP:bO [] Tryz.f99 Xa:=bP
def E99:=by
 have h:=cd b99 Yt.1;simp only[Yt,bZ,simprocAttr] at h;exact h
def LH:Ko [] Tryz.f100:=by apply Subtype.mk; cbv
def VN:=LH.1
def Js:=bD.mk 2 [.tmp 4] (sub VN 0)
def aeJ:bO [] Tryz.f100 Js:=bP
abbrev RR:=sub VN 15
def y9:=by
 have h:=cd VN LH.1;simp only[LH,bZ,simprocAttr] at h;exact h
def LI:Ko [] Tryz.f101:=by apply Subtype.mk; cbv
def VO:=LI.1
def Jt:=bD.mk 3 [.tmp 6] (sub VO 0)
def aeK:bO [] Tryz.f101 Jt:=bP
abbrev RS:=sub VO 15
def za:=by
 have h:=cd VO LI.1;simp only[LI,bZ,simprocAttr] at h;exact h
def Mb:Ko [1000214] Tryz.f132:=by apply Subtype.mk; cbv
def aba:=Mb.1
def qi:=bD.mk 4 [.tmp 8,.tmp 9,.tmp 10] (sub aba 0)
def afc:bO [1000214] Tryz.f132 qi:=bP
def Ai:=by
 have h:=cd aba Mb.1;simp only[Mb,bZ,simprocAttr] at h;exact h
def Mo:Ko [] Tryz.f145:=by apply Subtype.mk; cbv
def VT:=Mo.1
def Bh:=bD.mk 2 [.tmp 4] (sub VT 0)
def afn:bO [] Tryz.f145 Bh:=bP
abbrev FA:=sub VT 7
def pT:=by
 have h:=cd VT Mo.1;simp only[Mo,bZ,simprocAttr] at h;exact h
def Nu:Ko [] Tryz.f213:=by apply Subtype.mk; cbv
def V6:=Nu.1
def Bq:=bD.mk 2 [.tmp 4] (sub V6 0)
def agu:bO [] Tryz.f213 Bq:=bP
abbrev Sn:=sub V6 17
def zg:=by
 have h:=cd V6 Nu.1;simp only[Nu,bZ,simprocAttr] at h;exact h
def Nv:Ko [] Tryz.f215:=by apply Subtype.mk; cbv
def ab0:=Nv.1
def KE:=bD.mk 2 [.tmp 3] (sub ab0 0)
def agv:bO [] Tryz.f215 KE:=bP
def aie:=by
 have h:=cd ab0 Nv.1;simp only[Nv,bZ,simprocAttr] at h;exact h
def aeF:Ko [] Tryz.f217:=by apply Subtype.mk; cbv
def aiH:=aeF.1
def UN:=bD.mk 2 [.tmp 4] (sub aiH 0)
def agw:bO [] Tryz.f217 UN:=bP
def XI:Ko [] Tryz.f38:=by apply Subtype.mk; cbv
def b38:=XI.1
def WI:=bD.mk 0 [.bl 0 3] (sub b38 0)
def amQ:bO [] Tryz.f38 WI:=bP
def E38:=by
 have h:=cd b38 XI.1;simp only[XI,bZ,simprocAttr] at h;exact h
def M8:Ko [] Tryz.f193:=by apply Subtype.mk; cbv
def Q2:=M8.1
def Kl:=bD.mk 2 [.tmp 4,.tmp 5] (sub Q2 0)
def aga:bO [] Tryz.f193 Kl:=bP
abbrev Sk:=sub Q2 19
abbrev Zy:=sub Q2 39
def CU:=by
 have h:=cd Q2 M8.1;simp only[M8,bZ,simprocAttr] at h;exact h
def Na:Ko [] Tryz.f195:=by apply Subtype.mk; cbv
def abL:=Na.1
def Kn:=bD.mk 1 [.tmp 2,.tmp 3,.tmp 4] (sub abL 0)
def agc:bO [] Tryz.f195 Kn:=bP
def QF:=by
 have h:=cd abL Na.1;simp only[Na,bZ,simprocAttr] at h;exact h
end Go.Proofs.YtahkjijkflobhaaGreatDoor
set_option linter.defProp false
set_option maxRecDepth 100000
namespace Go.Proofs.YtahkjijkflobhaaGreatDoor
open Go Go.Abs
def Yi:Ko [] Tryz.f88:=by apply Subtype.mk; cbv
def b88:=Yi.1
def WV:=bD.mk 1 [.tmp 2] (sub b88 0)
def anE:bO [] Tryz.f88 WV:=bP
def E88:=by
 have h:=cd b88 Yi.1;simp only[Yi,bZ,simprocAttr] at h;exact h
def Nw:Ko [] Tryz.f218:=by apply Subtype.mk; cbv
def V7:=Nw.1
def KG:=bD.mk 3 [.tmp 6,.tmp 7] (sub V7 0)
def agx:bO [] Tryz.f218 KG:=bP
abbrev Sq:=sub V7 9
def Al:=by
 have h:=cd V7 Nw.1;simp only[Nw,bZ,simprocAttr] at h;exact h
def Yj:Ko [] Tryz.f89:=by apply Subtype.mk; cbv
def b89:=Yj.1
def WW:=bD.mk 3 [.tmp 6] (sub b89 0)
def anF:bO [] Tryz.f89 WW:=bP
def E89:=by
 have h:=cd b89 Yj.1;simp only[Yj,bZ,simprocAttr] at h;exact h
def Mz:Ko [] Tryz.f163:=by apply Subtype.mk; cbv
def abp:=Mz.1
def J0:=bD.mk 1 [.tmp 2] (sub abp 0)
def afG:bO [] Tryz.f163 J0:=bP
def aax:=by
 have h:=cd abp Mz.1;simp only[Mz,bZ,simprocAttr] at h;exact h
def Yh:Ko [] Tryz.f87:=by apply Subtype.mk; cbv
def b87:=Yh.1
def WU:=bD.mk 1 [.bl 2 2] (sub b87 0)
def anC:bO [] Tryz.f87 WU:=bP
def E87:=by
 have h:=cd b87 Yh.1;simp only[Yh,bZ,simprocAttr] at h;exact h
def Ny:Ko [] Tryz.f222:=by apply Subtype.mk; cbv
def ab1:=Ny.1
def KH:=bD.mk 2 [.tmp 4] (sub ab1 0)
def agz:bO [] Tryz.f222 KH:=bP
def aif:=by
 have h:=cd ab1 Ny.1;simp only[Ny,bZ,simprocAttr] at h;exact h
def Nx:Ko [] Tryz.f221:=by apply Subtype.mk; cbv
def V8:=Nx.1
def Br:=bD.mk 2 [.tmp 4] (sub V8 0)
def agy:bO [] Tryz.f221 Br:=bP
abbrev zK:=sub V8 7
def mr:=by
 have h:=cd V8 Nx.1;simp only[Nx,bZ,simprocAttr] at h;exact h
def Yl:Ko [] Tryz.f92:=by apply Subtype.mk; cbv
def b92:=Yl.1
def WY:=bD.mk 2 [.tmp 4] (sub b92 0)
def anI:bO [] Tryz.f92 WY:=bP
def E92:=by
 have h:=cd b92 Yl.1;simp only[Yl,bZ,simprocAttr] at h;exact h
def MB:Ko [] Tryz.f165:=by apply Subtype.mk; cbv
def abr:=MB.1
def J1:=bD.mk 2 [.tmp 3] (sub abr 0)
def afI:bO [] Tryz.f165 J1:=bP
def ah3:=by
 have h:=cd abr MB.1;simp only[MB,bZ,simprocAttr] at h;exact h
def MA:Ko [] Tryz.f164:=by apply Subtype.mk; cbv
def abq:=MA.1
def Fe:=bD.mk 2 [.tmp 4] (sub abq 0)
def afH:bO [] Tryz.f164 Fe:=bP
def aay:=by
 have h:=cd abq MA.1;simp only[MA,bZ,simprocAttr] at h;exact h
def Mf:Ko [1000220,1000219] Tryz.f135:=by apply Subtype.mk; cbv
def abc:=Mf.1
def JP:=bD.mk 5 [.tmp 10,.tmp 11] (sub abc 0)
def aff:bO [1000220,1000219] Tryz.f135 JP:=bP
def Gb:=by
 have h:=cd abc Mf.1;simp only[Mf,bZ,simprocAttr] at h;exact h
def Mg:Ko [1000220,1000223,2000092] Tryz.f136:=by apply Subtype.mk; cbv
def abd:=Mg.1
def Fa:=bD.mk 4 [.bl 8 3,.tmp 9,.tmp 10] (sub abd 0)
def afg:bO [1000220,1000223,2000092] Tryz.f136 Fa:=bP
def Vp:=by
 have h:=cd abd Mg.1;simp only[Mg,bZ,simprocAttr] at h;exact h
def Mr:Ko [] Tryz.f148:=by apply Subtype.mk; cbv
def Q0:=Mr.1
def JV:=bD.mk 3 [.bl 6 3,.tmp 7] (sub Q0 0)
def afq:bO [] Tryz.f148 JV:=bP
abbrev R4:=sub Q0 7
abbrev Zw:=sub Q0 23
def Gd:=by
 have h:=cd Q0 Mr.1;simp only[Mr,bZ,simprocAttr] at h;exact h
def NA:Ko [] Tryz.f226:=by apply Subtype.mk; cbv
def ab3:=NA.1
def KJ:=bD.mk 3 [.tmp 6,.tmp 7] (sub ab3 0)
def agB:bO [] Tryz.f226 KJ:=bP
def VA:=by
 have h:=cd ab3 NA.1;simp only[NA,bZ,simprocAttr] at h;exact h
def Yk:Ko [3] Tryz.f90:=by apply Subtype.mk; cbv
def b90:=Yk.1
def WX:=bD.mk 1 [.tmp 2] (sub b90 0)
def anG:bO [3] Tryz.f90 WX:=bP
abbrev YO:=sub b90 9
abbrev ahs:=sub b90 25
def E90:=by
 have h:=cd b90 Yk.1;simp only[Yk,bZ,simprocAttr] at h;exact h
def Ym:Ko [] Tryz.f93:=by apply Subtype.mk; cbv
def b93:=Ym.1
def WZ:=bD.mk 2 [.tmp 4,.tmp 5] (sub b93 0)
def anJ:bO [] Tryz.f93 WZ:=bP
def E93:=by
 have h:=cd b93 Ym.1;simp only[Ym,bZ,simprocAttr] at h;exact h
def MC:Ko [] Tryz.f166:=by apply Subtype.mk; cbv
def VV:=MC.1
def J2:=bD.mk 5 [] (sub VV 0)
def afJ:bO [] Tryz.f166 J2:=bP
abbrev R6:=sub VV 8
def Gg:=by
 have h:=cd VV MC.1;simp only[MC,bZ,simprocAttr] at h;exact h
def MG:Ko [] Tryz.f169:=by apply Subtype.mk; cbv
def abu:=MG.1
def J5:=bD.mk 2 [.tmp 4,.tmp 5] (sub abu 0)
def afM:bO [] Tryz.f169 J5:=bP
def ah4:=by
 have h:=cd abu MG.1;simp only[MG,bZ,simprocAttr] at h;exact h
def NL:Ko [] Tryz.f244:=by apply Subtype.mk; cbv
def Wb:=NL.1
def KV:=bD.mk 3 [.tmp 6,.tmp 7] (sub Wb 0)
def agN:bO [] Tryz.f244 KV:=bP
abbrev Su:=sub Wb 9
def Am:=by
 have h:=cd Wb NL.1;simp only[NL,bZ,simprocAttr] at h;exact h
def NM:Ko [] Tryz.f245:=by apply Subtype.mk; cbv
def acb:=NM.1
def KW:=bD.mk 2 [.tmp 4] (sub acb 0)
def agO:bO [] Tryz.f245 KW:=bP
def aim:=by
 have h:=cd acb NM.1;simp only[NM,bZ,simprocAttr] at h;exact h
def MD:Ko [] Tryz.f167:=by apply Subtype.mk; cbv
def VW:=MD.1
def J3:=bD.mk 3 [] (sub VW 0)
def afK:bO [] Tryz.f167 J3:=bP
abbrev R7:=sub VW 4
def Gh:=by
 have h:=cd VW MD.1;simp only[MD,bZ,simprocAttr] at h;exact h
def Yn:Ko [] Tryz.f94:=by apply Subtype.mk; cbv
def b94:=Yn.1
def W0:=bD.mk 3 [.tmp 6] (sub b94 0)
def anK:bO [] Tryz.f94 W0:=bP
def E94:=by
 have h:=cd b94 Yn.1;simp only[Yn,bZ,simprocAttr] at h;exact h
def MF:Ko [] Tryz.f168:=by apply Subtype.mk; cbv
def abt:=MF.1
def J4:=bD.mk 3 [.tmp 4] (sub abt 0)
def afL:bO [] Tryz.f168 J4:=bP
def Vt:=by
 have h:=cd abt MF.1;simp only[MF,bZ,simprocAttr] at h;exact h
def NY:Ko [] Tryz.f259:=by apply Subtype.mk; cbv
def We:=NY.1
def Fh:=bD.mk 2 [.tmp 4] (sub We 0)
def agZ:bO [] Tryz.f259 Fh:=bP
abbrev SC:=sub We 7
def zh:=by
 have h:=cd We NY.1;simp only[NY,bZ,simprocAttr] at h;exact h
def Ml:Ko [1000202,1000228,1000229] Tryz.f141:=by apply Subtype.mk; cbv
def abg:=Ml.1
def Bg:=bD.mk 5 [.tmp 10,.tmp 11] (sub abg 0)
def afk:bO [1000202,1000228,1000229] Tryz.f141 Bg:=bP
def Gc:=by
 have h:=cd abg Ml.1;simp only[Ml,bZ,simprocAttr] at h;exact h
def Mt:Ko [] Tryz.f153:=by apply Subtype.mk; cbv
def abl:=Mt.1
def Fb:=bD.mk 1 [.tmp 2] (sub abl 0)
def afx:bO [] Tryz.f153 Fb:=bP
def Aj:=by
 have h:=cd abl Mt.1;simp only[Mt,bZ,simprocAttr] at h;exact h
def XH:Ko [] Tryz.f37:=by apply Subtype.mk; cbv
def b37:=XH.1
def WH:=bD.mk 1 [.bl 2 8] (sub b37 0)
def amP:bO [] Tryz.f37 WH:=bP
def E37:=by
 have h:=cd b37 XH.1;simp only[XH,bZ,simprocAttr] at h;exact h
def Ms:Ko [] Tryz.f152:=by apply Subtype.mk; cbv
def abk:=Ms.1
def JW:=bD.mk 3 [.tmp 6] (sub abk 0)
def afw:bO [] Tryz.f152 JW:=bP
def ah1:=by
 have h:=cd abk Ms.1;simp only[Ms,bZ,simprocAttr] at h;exact h
def NI:Ko [] Tryz.f238:=by apply Subtype.mk; cbv
def ab8:=NI.1
def KS:=bD.mk 3 [.tmp 4] (sub ab8 0)
def agJ:bO [] Tryz.f238 KS:=bP
def aaF:=by
 have h:=cd ab8 NI.1;simp only[NI,bZ,simprocAttr] at h;exact h
def NH:Ko [] Tryz.f237:=by apply Subtype.mk; cbv
def ab7:=NH.1
def KR:=bD.mk 2 [.tmp 4] (sub ab7 0)
def agI:bO [] Tryz.f237 KR:=bP
def aij:=by
 have h:=cd ab7 NH.1;simp only[NH,bZ,simprocAttr] at h;exact h
def N6:Ko [] Tryz.f275:=by apply Subtype.mk; cbv
def Wh:=N6.1
def K9:=bD.mk 2 [.tmp 4] (sub Wh 0)
def ag8:bO [] Tryz.f275 K9:=bP
abbrev SF:=sub Wh 7
def CW:=by
 have h:=cd Wh N6.1;simp only[N6,bZ,simprocAttr] at h;exact h
def Yf:Ko [] Tryz.f85:=by apply Subtype.mk; cbv
def b85:=Yf.1
def WS:=bD.mk 2 [.tmp 4] (sub b85 0)
def anA:bO [] Tryz.f85 WS:=bP
def E85:=by
 have h:=cd b85 Yf.1;simp only[Yf,bZ,simprocAttr] at h;exact h
def Mx:Ko [] Tryz.f161:=by apply Subtype.mk; cbv
def abn:=Mx.1
def JY:=bD.mk 2 [.tmp 4] (sub abn 0)
def afE:bO [] Tryz.f161 JY:=bP
def ah2:=by
 have h:=cd abn Mx.1;simp only[Mx,bZ,simprocAttr] at h;exact h
def Nz:Ko [] Tryz.f225:=by apply Subtype.mk; cbv
def ab2:=Nz.1
def KI:=bD.mk 2 [.tmp 4] (sub ab2 0)
def agA:bO [] Tryz.f225 KI:=bP
def aaE:=by
 have h:=cd ab2 Nz.1;simp only[Nz,bZ,simprocAttr] at h;exact h
def Mh:Ko [8000224,1001004005] Tryz.f137:=by apply Subtype.mk; cbv
def Gr:=Mh.1
def JQ:=bD.mk 2 [.bl 4 8] (sub Gr 0)
def afh:bO [8000224,1001004005] Tryz.f137 JQ:=bP
abbrev R1:=sub Gr 17
abbrev R2:=sub Gr 40
abbrev TP:=sub Gr 62
abbrev TQ:=sub Gr 35
def zc:=by
 have h:=cd Gr Mh.1;simp only[Mh,bZ,simprocAttr] at h;exact h
def Mm:Ko [8000230] Tryz.f142:=by apply Subtype.mk; cbv
def abh:=Mm.1
def JR:=bD.mk 2 [.bl 4 8,.tmp 5,.tmp 6] (sub abh 0)
def afl:bO [8000230] Tryz.f142 JR:=bP
def aat:=by
 have h:=cd abh Mm.1;simp only[Mm,bZ,simprocAttr] at h;exact h
def Ye:Ko [6000012] Tryz.f84:=by apply Subtype.mk; cbv
def b84:=Ye.1
def WR:=bD.mk 2 [.tmp 4,.tmp 5] (sub b84 0)
def anz:bO [6000012] Tryz.f84 WR:=bP
abbrev YM:=sub b84 9
abbrev YN:=sub b84 30
abbrev ZM:=sub b84 46
abbrev ZN:=sub b84 25
def QP:=by
 have h:=cd b84 Ye.1;simp only[Ye,bZ,simprocAttr] at h;exact h
def Mv:Ko [] Tryz.f157:=by apply Subtype.mk; cbv
def Q1:=Mv.1
def Bi:=bD.mk 5 [.tmp 6] (sub Q1 0)
def afB:bO [] Tryz.f157 Bi:=bP
abbrev R5:=sub Q1 33
abbrev Zx:=sub Q1 45
def Gf:=by
 have h:=cd Q1 Mv.1;simp only[Mv,bZ,simprocAttr] at h;exact h
def aeE:Ko [] Tryz.f159:=by apply Subtype.mk; cbv
def aiG:=aeE.1
def UM:=bD.mk 2 [.tmp 4] (sub aiG 0)
def afC:bO [] Tryz.f159 UM:=bP
def Mn:Ko [] Tryz.f143:=by apply Subtype.mk; cbv
def QZ:=Mn.1
def JS:=bD.mk 2 [.tmp 4,.tmp 5,.tmp 6] (sub QZ 0)
def afm:bO [] Tryz.f143 JS:=bP
abbrev R3:=sub QZ 7
abbrev Zv:=sub QZ 27
def QC:=by
 have h:=cd QZ Mn.1;simp only[Mn,bZ,simprocAttr] at h;exact h
def NC:Ko [5] Tryz.f232:=by apply Subtype.mk; cbv
def V9:=NC.1
def KL:=bD.mk 2 [.tmp 4] (sub V9 0)
def agD:bO [5] Tryz.f232 KL:=bP
abbrev Sr:=sub V9 9
def QJ:=by
 have h:=cd V9 NC.1;simp only[NC,bZ,simprocAttr] at h;exact h
def ND:Ko [] Tryz.f233:=by apply Subtype.mk; cbv
def ab5:=ND.1
def KM:=bD.mk 2 [.tmp 3] (sub ab5 0)
def agE:bO [] Tryz.f233 KM:=bP
def aih:=by
 have h:=cd ab5 ND.1;simp only[ND,bZ,simprocAttr] at h;exact h
def NF:Ko [5] Tryz.f234:=by apply Subtype.mk; cbv
def Wa:=NF.1
def KN:=bD.mk 2 [.tmp 4] (sub Wa 0)
def agF:bO [5] Tryz.f234 KN:=bP
abbrev Ss:=sub Wa 9
def QK:=by
 have h:=cd Wa NF.1;simp only[NF,bZ,simprocAttr] at h;exact h
def NG:Ko [] Tryz.f235:=by apply Subtype.mk; cbv
def ab6:=NG.1
def KQ:=bD.mk 2 [.tmp 3] (sub ab6 0)
def agG:bO [] Tryz.f235 KQ:=bP
def aii:=by
 have h:=cd ab6 NG.1;simp only[NG,bZ,simprocAttr] at h;exact h
def Mq:Ko [] Tryz.f147:=by apply Subtype.mk; cbv
def abj:=Mq.1
def JU:=bD.mk 2 [.bl 4 8,.tmp 5] (sub abj 0)
def afp:bO [] Tryz.f147 JU:=bP
def aau:=by
 have h:=cd abj Mq.1;simp only[Mq,bZ,simprocAttr] at h;exact h
def amd:Ko [] Tryz.f42:=by apply Subtype.mk; cbv
def b42:=amd.1
def adu:=bD.mk 2 [.tmp 4] (sub b42 0)
def amU:bO [] Tryz.f42 adu:=bP
def ame:Ko [] Tryz.f43:=by apply Subtype.mk; cbv
def b43:=ame.1
def adv:=bD.mk 3 [.tmp 6] (sub b43 0)
def amV:bO [] Tryz.f43 adv:=bP
def amf:Ko [] Tryz.f44:=by apply Subtype.mk; cbv
def b44:=amf.1
def adw:=bD.mk 2 [.tmp 4] (sub b44 0)
def amW:bO [] Tryz.f44 adw:=bP
def amg:Ko [] Tryz.f45:=by apply Subtype.mk; cbv
def b45:=amg.1
def adx:=bD.mk 2 [.tmp 4] (sub b45 0)
def amX:bO [] Tryz.f45 adx:=bP
def amh:Ko [] Tryz.f46:=by apply Subtype.mk; cbv
def b46:=amh.1
def ady:=bD.mk 2 [.tmp 4] (sub b46 0)
def amY:bO [] Tryz.f46 ady:=bP
end Go.Proofs.YtahkjijkflobhaaGreatDoor
set_option linter.defProp false
set_option maxRecDepth 100000
namespace Go.Proofs.YtahkjijkflobhaaGreatDoor
open Go Go.Abs
def Xx:Ko [] Tryz.f20:=by apply Subtype.mk; cbv
def b20:=Xx.1
def Wy:=bD.mk 0 [.bl 0 10] (sub b20 0)
def amA:bO [] Tryz.f20 Wy:=bP
def E20:=by
 have h:=cd b20 Xx.1;simp only[Xx,bZ,simprocAttr] at h;exact h
def XB:Ko [] Tryz.f28:=by apply Subtype.mk; cbv
def b28:=XB.1
def WB:=bD.mk 2 [] (sub b28 0)
def amG:bO [] Tryz.f28 WB:=bP
def E28:=by
 have h:=cd b28 XB.1;simp only[XB,bZ,simprocAttr] at h;exact h
def Yd:Ko [] Tryz.f78:=by apply Subtype.mk; cbv
def b78:=Yd.1
def WQ:=bD.mk 1 [] (sub b78 0)
def anr:bO [] Tryz.f78 WQ:=bP
def E78:=by
 have h:=cd b78 Yd.1;simp only[Yd,bZ,simprocAttr] at h;exact h
def L3:Ko [] Tryz.f124:=by apply Subtype.mk; cbv
def aa4:=L3.1
def JE:=bD.mk 2 [.bl 4 6] (sub aa4 0)
def ae4:bO [] Tryz.f124 JE:=bP
def Vm:=by
 have h:=cd aa4 L3.1;simp only[L3,bZ,simprocAttr] at h;exact h
def M9:Ko [] Tryz.f194:=by apply Subtype.mk; cbv
def abK:=M9.1
def Km:=bD.mk 2 [.bl 4 6] (sub abK 0)
def agb:bO [] Tryz.f194 Km:=bP
def ah8:=by
 have h:=cd abK M9.1;simp only[M9,bZ,simprocAttr] at h;exact h
def L4:Ko [] Tryz.f125:=by apply Subtype.mk; cbv
def aa5:=L4.1
def JF:=bD.mk 2 [.tmp 4,.tmp 5] (sub aa5 0)
def ae5:bO [] Tryz.f125 JF:=bP
def QA:=by
 have h:=cd aa5 L4.1;simp only[L4,bZ,simprocAttr] at h;exact h
def L6:Ko [1000202] Tryz.f127:=by apply Subtype.mk; cbv
def Gq:=L6.1
def JH:=bD.mk 3 [] (sub Gq 0)
def ae7:bO [1000202] Tryz.f127 JH:=bP
abbrev RZ:=sub Gq 7
abbrev Fz:=sub Gq 32
abbrev FU:=sub Gq 46
abbrev TN:=sub Gq 23
def ku:=by
 have h:=cd Gq L6.1;simp only[L6,bZ,simprocAttr] at h;exact h
def Nf:Ko [] Tryz.f199:=by apply Subtype.mk; cbv
def abP:=Nf.1
def Kt:=bD.mk 2 [.tmp 3] (sub abP 0)
def agh:bO [] Tryz.f199 Kt:=bP
def ah9:=by
 have h:=cd abP Nf.1;simp only[Nf,bZ,simprocAttr] at h;exact h
def Nh:Ko [] Tryz.f201:=by apply Subtype.mk; cbv
def V3:=Nh.1
def Bp:=bD.mk 2 [.tmp 4] (sub V3 0)
def agj:bO [] Tryz.f201 Bp:=bP
abbrev Sl:=sub V3 17
def zf:=by
 have h:=cd V3 Nh.1;simp only[Nh,bZ,simprocAttr] at h;exact h
def Ni:Ko [] Tryz.f203:=by apply Subtype.mk; cbv
def abR:=Ni.1
def Kv:=bD.mk 2 [.tmp 3] (sub abR 0)
def agk:bO [] Tryz.f203 Kv:=bP
def aia:=by
 have h:=cd abR Ni.1;simp only[Ni,bZ,simprocAttr] at h;exact h
def XC:Ko [] Tryz.f32:=by apply Subtype.mk; cbv
def b32:=XC.1
def WC:=bD.mk 2 [.tmp 4] (sub b32 0)
def amK:bO [] Tryz.f32 WC:=bP
abbrev Yw:=sub b32 31
abbrev ZJ:=sub b32 55
abbrev Oi:=sub b32 9
abbrev PH:=sub b32 56
def Iw:=by
 have h:=cd b32 XC.1;simp only[XC,bZ,simprocAttr] at h;exact h
def Md:Ko [] Tryz.f134:=by apply Subtype.mk; cbv
def abb:=Md.1
def JO:=bD.mk 1 [.tmp 2] (sub abb 0)
def afe:bO [] Tryz.f134 JO:=bP
def ahZ:=by
 have h:=cd abb Md.1;simp only[Md,bZ,simprocAttr] at h;exact h
def XW:Ko [] Tryz.f61:=by apply Subtype.mk; cbv
def b61:=XW.1
def Rx:=bD.mk 1 [] (sub b61 0)
def am9:bO [] Tryz.f61 Rx:=bP
def E61:=by
 have h:=cd b61 XW.1;simp only[XW,bZ,simprocAttr] at h;exact h
def XX:Ko [] Tryz.f62:=by apply Subtype.mk; cbv
def b62:=XX.1
def GZ:=bD.mk 1 [] (sub b62 0)
def ana:bO [] Tryz.f62 GZ:=bP
def E62:=by
 have h:=cd b62 XX.1;simp only[XX,bZ,simprocAttr] at h;exact h
def XY:Ko [] Tryz.f63:=by apply Subtype.mk; cbv
def b63:=XY.1
def DQ:=bD.mk 1 [] (sub b63 0)
def anb:bO [] Tryz.f63 DQ:=bP
def E63:=by
 have h:=cd b63 XY.1;simp only[XY,bZ,simprocAttr] at h;exact h
def XZ:Ko [] Tryz.f64:=by apply Subtype.mk; cbv
def b64:=XZ.1
def G2:=bD.mk 1 [] (sub b64 0)
def anc:bO [] Tryz.f64 G2:=bP
def E64:=by
 have h:=cd b64 XZ.1;simp only[XZ,bZ,simprocAttr] at h;exact h
def X0:Ko [] Tryz.f65:=by apply Subtype.mk; cbv
def b65:=X0.1
def BB:=bD.mk 1 [] (sub b65 0)
def ane:bO [] Tryz.f65 BB:=bP
def E65:=by
 have h:=cd b65 X0.1;simp only[X0,bZ,simprocAttr] at h;exact h
def X1:Ko [] Tryz.f66:=by apply Subtype.mk; cbv
def b66:=X1.1
def Lf:=bD.mk 1 [] (sub b66 0)
def anf:bO [] Tryz.f66 Lf:=bP
def E66:=by
 have h:=cd b66 X1.1;simp only[X1,bZ,simprocAttr] at h;exact h
def Mc:Ko [3] Tryz.f133:=by apply Subtype.mk; cbv
def QY:=Mc.1
def JN:=bD.mk 1 [.tmp 2] (sub QY 0)
def afd:bO [3] Tryz.f133 JN:=bP
abbrev R0:=sub QY 9
abbrev Zu:=sub QY 21
def QB:=by
 have h:=cd QY Mc.1;simp only[Mc,bZ,simprocAttr] at h;exact h
def X2:Ko [] Tryz.f67:=by apply Subtype.mk; cbv
def b67:=X2.1
def Ry:=bD.mk 1 [] (sub b67 0)
def ang:bO [] Tryz.f67 Ry:=bP
def E67:=by
 have h:=cd b67 X2.1;simp only[X2,bZ,simprocAttr] at h;exact h
def X3:Ko [] Tryz.f68:=by apply Subtype.mk; cbv
def b68:=X3.1
def Lg:=bD.mk 1 [] (sub b68 0)
def anh:bO [] Tryz.f68 Lg:=bP
def E68:=by
 have h:=cd b68 X3.1;simp only[X3,bZ,simprocAttr] at h;exact h
def X4:Ko [] Tryz.f69:=by apply Subtype.mk; cbv
def b69:=X4.1
def Rz:=bD.mk 1 [] (sub b69 0)
def ani:bO [] Tryz.f69 Rz:=bP
def E69:=by
 have h:=cd b69 X4.1;simp only[X4,bZ,simprocAttr] at h;exact h
def Mi:Ko [] Tryz.f138:=by apply Subtype.mk; cbv
def abe:=Mi.1
def Be:=bD.mk 1 [.bl 2 6] (sub abe 0)
def afi:bO [] Tryz.f138 Be:=bP
def Vq:=by
 have h:=cd abe Mi.1;simp only[Mi,bZ,simprocAttr] at h;exact h
def X5:Ko [] Tryz.f70:=by apply Subtype.mk; cbv
def b70:=X5.1
def DR:=bD.mk 1 [] (sub b70 0)
def anj:bO [] Tryz.f70 DR:=bP
def E70:=by
 have h:=cd b70 X5.1;simp only[X5,bZ,simprocAttr] at h;exact h
def Mj:Ko [] Tryz.f140:=by apply Subtype.mk; cbv
def abf:=Mj.1
def Bf:=bD.mk 3 [] (sub abf 0)
def afj:bO [] Tryz.f140 Bf:=bP
def Vr:=by
 have h:=cd abf Mj.1;simp only[Mj,bZ,simprocAttr] at h;exact h
def X6:Ko [1000139,2000140] Tryz.f71:=by apply Subtype.mk; cbv
def b71:=X6.1
def xD:=bD.mk 1 [] (sub b71 0)
def ank:bO [1000139,2000140] Tryz.f71 xD:=bP
def Ui:=by
 have h:=cd b71 X6.1;simp only[X6,bZ,simprocAttr] at h;exact h
def X7:Ko [] Tryz.f72:=by apply Subtype.mk; cbv
def b72:=X7.1
def Lh:=bD.mk 1 [] (sub b72 0)
def anl:bO [] Tryz.f72 Lh:=bP
def E72:=by
 have h:=cd b72 X7.1;simp only[X7,bZ,simprocAttr] at h;exact h
def X8:Ko [] Tryz.f73:=by apply Subtype.mk; cbv
def b73:=X8.1
def G3:=bD.mk 1 [] (sub b73 0)
def anm:bO [] Tryz.f73 G3:=bP
def E73:=by
 have h:=cd b73 X8.1;simp only[X8,bZ,simprocAttr] at h;exact h
def X9:Ko [] Tryz.f74:=by apply Subtype.mk; cbv
def b74:=X9.1
def Li:=bD.mk 1 [] (sub b74 0)
def ann:bO [] Tryz.f74 Li:=bP
def E74:=by
 have h:=cd b74 X9.1;simp only[X9,bZ,simprocAttr] at h;exact h
def Ya:Ko [] Tryz.f75:=by apply Subtype.mk; cbv
def b75:=Ya.1
def Lj:=bD.mk 1 [] (sub b75 0)
def ano:bO [] Tryz.f75 Lj:=bP
abbrev YK:=sub b75 15
abbrev YL:=sub b75 34
abbrev ZK:=sub b75 52
abbrev ZL:=sub b75 27
def EE:=by
 have h:=cd b75 Ya.1;simp only[Ya,bZ,simprocAttr] at h;exact h
def Mp:Ko [] Tryz.f146:=by apply Subtype.mk; cbv
def abi:=Mp.1
def JT:=bD.mk 2 [.tmp 3] (sub abi 0)
def afo:bO [] Tryz.f146 JT:=bP
def ah0:=by
 have h:=cd abi Mp.1;simp only[Mp,bZ,simprocAttr] at h;exact h
def Yb:Ko [] Tryz.f76:=by apply Subtype.mk; cbv
def b76:=Yb.1
def RA:=bD.mk 1 [] (sub b76 0)
def anp:bO [] Tryz.f76 RA:=bP
def E76:=by
 have h:=cd b76 Yb.1;simp only[Yb,bZ,simprocAttr] at h;exact h
def Yc:Ko [] Tryz.f77:=by apply Subtype.mk; cbv
def b77:=Yc.1
def WO:=bD.mk 1 [] (sub b77 0)
def anq:bO [] Tryz.f77 WO:=bP
def E77:=by
 have h:=cd b77 Yc.1;simp only[Yc,bZ,simprocAttr] at h;exact h
def XA:Ko [] Tryz.f27:=by apply Subtype.mk; cbv
def b27:=XA.1
def WA:=bD.mk 0 [.tmp 0] (sub b27 0)
def amF:bO [] Tryz.f27 WA:=bP
def E27:=by
 have h:=cd b27 XA.1;simp only[XA,bZ,simprocAttr] at h;exact h
def al7:Ko [] Tryz.f22:=by apply Subtype.mk; cbv
def b22:=al7.1
def adp:=bD.mk 2 [.tmp 4] (sub b22 0)
def amC:bO [] Tryz.f22 adp:=bP
def amc:Ko [] Tryz.f40:=by apply Subtype.mk; cbv
def b40:=amc.1
def adt:=bD.mk 2 [.tmp 4] (sub b40 0)
def amS:bO [] Tryz.f40 adt:=bP
end Go.Proofs.YtahkjijkflobhaaGreatDoor
set_option linter.defProp false
set_option maxRecDepth 100000
namespace Go.Proofs.YtahkjijkflobhaaGreatDoor
open Go Go.Abs
def N5:Ko [] Tryz.f273:=by apply Subtype.mk; cbv
def acp:=N5.1
def Bw:=bD.mk 2 [.tmp 4,.tmp 5] (sub acp 0)
def ag7:bO [] Tryz.f273 Bw:=bP
def air:=by
 have h:=cd acp N5.1;simp only[N5,bZ,simprocAttr] at h;exact h
def Ob:Ko [] Tryz.f307:=by apply Subtype.mk; cbv
def acu:=Ob.1
def BA:=bD.mk 2 [.tmp 4,.tmp 5] (sub acu 0)
def ahd:bO [] Tryz.f307 BA:=bP
def QM:=by
 have h:=cd acu Ob.1;simp only[Ob,bZ,simprocAttr] at h;exact h
def Oc:Ko [] Tryz.f325:=by apply Subtype.mk; cbv
def acv:=Oc.1
def x9:=bD.mk 2 [.tmp 4] (sub acv 0)
def ahe:bO [] Tryz.f325 x9:=bP
def QN:=by
 have h:=cd acv Oc.1;simp only[Oc,bZ,simprocAttr] at h;exact h
end Go.Proofs.YtahkjijkflobhaaGreatDoor
set_option linter.defProp false
set_option maxRecDepth 100000
namespace Go.Proofs.YtahkjijkflobhaaGreatDoor
open Go Go.Abs
def ko8:Ko [] Tryz.f8:=by apply Subtype.mk; cbv
def b8:=ko8.1
def fn8:=bD.mk 1 [.tmp 2] (sub b8 0)
def ok8:bO [] Tryz.f8 fn8:=bP
def E8:=by
 have h:=cd b8 ko8.1;simp only[ko8,bZ,simprocAttr] at h;exact h
def U6:aO :=
 (.seq (.region [
 ob 0 (.mv (.ep (.bool false)))] false [0]) (.ret))
def U7:aO :=
 (.seq (.region [
 ob 110 (.du 1 (.tmp 2)),
 ob 111 (.cY (.tmp 110)),
 ob 112 (.bin .eql (.tmp 111) (.ep (.int .i64 2))),
 ob 113 (.mv (.tmp 112)),
 og 114 113 true (.du 1 (.tmp 3)),
 og 115 113 true (.cY (.tmp 114)),
 og 116 113 true (.bin .eql (.tmp 115) (.ep (.int .i64 3))),
 ob 117 (.pick (.tmp 113) (.tmp 116) (.ep (.bool false))),
 ob 118 (.mv (.tmp 117)),
 og 119 118 true (.du 0 (.tmp 4)),
 og 120 118 true (.cY (.tmp 119)),
 og 121 118 true (.bin .eql (.tmp 120) (.ep (.int .i64 0))),
 ob 122 (.pick (.tmp 118) (.tmp 121) (.ep (.bool false))),
 ob 123 (.mv (.tmp 122)),
 og 124 123 true (.du 4 (.tmp 5)),
 og 125 123 true (.cY (.tmp 124)),
 og 126 123 true (.bin .eql (.tmp 125) (.ep (.int .i64 3))),
 ob 127 (.pick (.tmp 123) (.tmp 126) (.ep (.bool false))),
 ob 128 (.mv (.tmp 127)),
 og 129 128 true (.du 0 (.tmp 6)),
 og 130 128 true (.cY (.tmp 129)),
 og 131 128 true (.bin .eql (.tmp 130) (.ep (.int .i64 0))),
 ob 132 (.pick (.tmp 128) (.tmp 131) (.ep (.bool false))),
 ob 133 (.mv (.tmp 132)),
 og 134 133 true (.du 1 (.tmp 7)),
 og 135 133 true (.cY (.tmp 134)),
 og 136 133 true (.bin .eql (.tmp 135) (.ep (.int .i64 3))),
 ob 137 (.pick (.tmp 133) (.tmp 136) (.ep (.bool false))),
 ob 138 (.mv (.tmp 137)),
 og 139 138 true (.du 6 (.tmp 9)),
 og 140 138 true (.cY (.tmp 139)),
 og 141 138 true (.mY 1 (.tmp 140) (.ep (.int .i64 0))),
 og 142 138 true (.cY (.tmp 141)),
 og 143 138 true (.bin .eql (.tmp 142) (.ep (.int .u8 0))),
 ob 144 (.pick (.tmp 138) (.tmp 143) (.ep (.bool false))),
 ob 145 (.mv (.tmp 144)),
 og 146 145 true (.du 6 (.tmp 9)),
 og 147 145 true (.cY (.tmp 146)),
 og 148 145 true (.mY 1 (.tmp 147) (.ep (.int .i64 2))),
 og 149 145 true (.cY (.tmp 148)),
 og 150 145 true (.bin .eql (.tmp 149) (.ep (.int .u8 8))),
 ob 151 (.pick (.tmp 145) (.tmp 150) (.ep (.bool false))),
 ob 152 (.mv (.tmp 151)),
 og 153 152 true (.du 1 (.tmp 11)),
 og 154 152 true (.cY (.tmp 153)),
 og 155 152 true (.bin .eql (.tmp 154) (.ep (.int .i64 3))),
 ob 156 (.pick (.tmp 152) (.tmp 155) (.ep (.bool false))),
 ob 157 (.mv (.tmp 156)),
 og 158 157 true (.du 6 (.tmp 11)),
 og 159 157 true (.cY (.tmp 158)),
 og 160 157 true (.mY 1 (.tmp 159) (.ep (.int .i64 1))),
 og 161 157 true (.cY (.tmp 160)),
 og 162 157 true (.bin .eql (.tmp 161) (.ep (.int .u8 7))),
 ob 163 (.pick (.tmp 157) (.tmp 162) (.ep (.bool false))),
 ob 164 (.mv (.tmp 163)),
 og 165 164 true (.du 0 (.tmp 13)),
 og 166 164 true (.cY (.tmp 165)),
 og 167 164 true (.bin .eql (.tmp 166) (.ep (.int .i64 70))),
 ob 168 (.pick (.tmp 164) (.tmp 167) (.ep (.bool false))),
 ob 169 (.mv (.tmp 168)),
 og 170 169 true (.du 0 (.tmp 14)),
 og 171 169 true (.cY (.tmp 170)),
 og 172 169 true (.bin .eql (.tmp 171) (.ep (.int .i64 0))),
 ob 173 (.pick (.tmp 169) (.tmp 172) (.ep (.bool false))),
 ob 174 (.mv (.tmp 173)),
 og 175 174 true (.du 0 (.tmp 15)),
 og 176 174 true (.cY (.tmp 175)),
 og 177 174 true (.bin .eql (.tmp 176) (.ep (.int .i64 90))),
 ob 178 (.pick (.tmp 174) (.tmp 177) (.ep (.bool false))),
 ob 179 (.mv (.tmp 178)),
 og 180 179 true (.du 0 (.tmp 16)),
 og 181 179 true (.cY (.tmp 180)),
 og 182 179 true (.bin .eql (.tmp 181) (.ep (.int .i64 0))),
 ob 183 (.pick (.tmp 179) (.tmp 182) (.ep (.bool false))),
 ob 184 (.mv (.tmp 183)),
 og 185 184 true (.du 0 (.tmp 18)),
 og 186 184 true (.cY (.tmp 185)),
 og 187 184 true (.bin .eql (.tmp 186) (.ep (.int .i64 1))),
 ob 188 (.pick (.tmp 184) (.tmp 187) (.ep (.bool false))),
 ob 189 (.mv (.tmp 188)),
 og 190 189 true (.du 0 (.tmp 1)),
 og 191 189 true (.du 0 (.tmp 190)),
 og 192 189 true (.du 0 (.tmp 191)),
 og 193 189 true (.cY (.tmp 192)),
 og 194 189 true (.wJ (.tmp 193)),
 og 195 189 true (.bin .eql (.tmp 194) (.ep (.int .i64 2))),
 ob 196 (.pick (.tmp 189) (.tmp 195) (.ep (.bool false))),
 ob 197 (.mv (.tmp 196)),
 og 198 197 true (.eT 10 (.tmp 1)),
 og 199 197 true (.call 15 [(.tmp 198)]),
 ob 200 (.pick (.tmp 197) (.tmp 199) (.ep (.bool false))),
 ob 201 (.mv (.tmp 200)),
 og 202 201 true (.build [(.slice .c0 []),(.int .i64 0),(.int .i64 0),(.int .i64 0),(.slice .c0 []),(.slice .c0 []),(.slice .c0 []),(.int .i64 0),(.slice .c0 []),(.slice .c0 [])] []),
 og 203 201 true (.call 15 [(.tmp 202)]),
 og 204 201 true (.not (.tmp 203)),
 ob 205 (.pick (.tmp 201) (.tmp 204) (.ep (.bool false))),
 ob 206 (.mv (.tmp 205)),
 og 207 206 true (.eT 10 (.tmp 1)),
 ⟨(some 208),.call 20 [],(some (206,true)),true,false,[],true⟩,
 og 209 206 true (.call 22 [(.tmp 207),(.tmp 208)]),
 og 210 206 true (.not (.tmp 209)),
 ob 211 (.pick (.tmp 206) (.tmp 210) (.ep (.bool false))),
 ob 0 (.mv (.tmp 211))] true [0]) (.ret))
def U8:aO :=
 (.seq (.seq (.region [
 ob 100 (.du 6 (.tmp 9)),
 ob 101 (.cY (.tmp 100)),
 ob 102 (.wJ (.tmp 101)),
 ob 103 (.bin .neq (.tmp 102) (.ep (.int .i64 3))),
 ob 104 (.mv (.tmp 103)),
 og 105 104 false (.du 6 (.tmp 11)),
 og 106 104 false (.cY (.tmp 105)),
 og 107 104 false (.wJ (.tmp 106)),
 og 108 104 false (.bin .neq (.tmp 107) (.ep (.int .i64 3))),
 ob 109 (.pick (.tmp 104) (.ep (.bool true)) (.tmp 108))] false [1,2,3,4,5,6,7,9,11,13,14,15,16,18,109]) (.cond (.tmp 109) U6 (.skip))) U7)
def U9:aO :=
 (.seq (.region [
 ob 95 (.eT 10 (.tmp 1)),
 ob 96 (.build [(.int .i64 0),(.int .i64 0),(.str []),(.str []),(.int .i64 0),(.int .i64 0),(.int .i64 0),(.slice .c0 [])] [(0,1,(.ep (.int .i64 99)))]),
 ob 97 (.call 14 [(.tmp 95),(.tmp 96)]),
 ob 94 (.mv (.tmp 97)),
 ob 98 (.extract (.tmp 94) 0),
 ob 99 (.extract (.tmp 94) 1),
 ob 17 (.iB [(.slice .c0 []),(.int .i64 0),(.int .i64 0),(.int .i64 0),(.slice .c0 []),(.slice .c0 []),(.slice .c0 []),(.int .i64 0),(.slice .c0 []),(.slice .c0 [])]),
 ob 18 (.iB [(.int .i64 0),(.int .i64 0),(.int .i64 0),(.int .i64 0),(.int .i64 0),(.slice .c0 []),(.slice .c0 [])]),
 ox (.store 10 (.tmp 17) (.tmp 98)),
 ox (.store 7 (.tmp 18) (.tmp 99))] false [1,2,3,4,5,6,7,9,11,13,14,15,16,18]) U8)
def Va:aO :=
 (.seq (.region [
 ob 89 (.eT 10 (.tmp 1)),
 ob 90 (.build [(.int .i64 0),(.int .i64 0),(.str []),(.str []),(.int .i64 0),(.int .i64 0),(.int .i64 0),(.slice .c0 [])] [(0,1,(.ep (.int .i64 9))),(6,1,(.ep (.int .i64 4)))]),
 ob 91 (.call 14 [(.tmp 89),(.tmp 90)]),
 ob 88 (.mv (.tmp 91)),
 ob 92 (.extract (.tmp 88) 0),
 ob 93 (.extract (.tmp 88) 1),
 ob 16 (.iB [(.int .i64 0),(.int .i64 0),(.int .i64 0),(.int .i64 0),(.int .i64 0),(.slice .c0 []),(.slice .c0 [])]),
 ox (.store 10 (.tmp 1) (.tmp 92)),
 ox (.store 7 (.tmp 16) (.tmp 93))] false [1,2,3,4,5,6,7,9,11,13,14,15,16]) U9)
def Vb:aO :=
 (.seq (.region [
 ob 83 (.eT 10 (.tmp 1)),
 ob 84 (.build [(.int .i64 0),(.int .i64 0),(.str []),(.str []),(.int .i64 0),(.int .i64 0),(.int .i64 0),(.slice .c0 [])] [(0,1,(.ep (.int .i64 2))),(2,1,(.ep (.str [47,101]))),(4,1,(.ep (.int .i64 2)))]),
 ob 85 (.call 14 [(.tmp 83),(.tmp 84)]),
 ob 82 (.mv (.tmp 85)),
 ob 86 (.extract (.tmp 82) 0),
 ob 87 (.extract (.tmp 82) 1),
 ob 15 (.iB [(.int .i64 0),(.int .i64 0),(.int .i64 0),(.int .i64 0),(.int .i64 0),(.slice .c0 []),(.slice .c0 [])]),
 ox (.store 10 (.tmp 1) (.tmp 86)),
 ox (.store 7 (.tmp 15) (.tmp 87))] false [1,2,3,4,5,6,7,9,11,13,14,15]) Va)
def Vc:aO :=
 (.seq (.region [
 ob 77 (.eT 10 (.tmp 1)),
 ob 78 (.build [(.int .i64 0),(.int .i64 0),(.str []),(.str []),(.int .i64 0),(.int .i64 0),(.int .i64 0),(.slice .c0 [])] [(0,1,(.ep (.int .i64 13))),(2,1,(.ep (.str [47]))),(4,1,(.ep (.int .i64 1))),(5,1,(.ep (.int .i64 10)))]),
 ob 79 (.call 14 [(.tmp 77),(.tmp 78)]),
 ob 76 (.mv (.tmp 79)),
 ob 80 (.extract (.tmp 76) 0),
 ob 81 (.extract (.tmp 76) 1),
 ob 14 (.iB [(.int .i64 0),(.int .i64 0),(.int .i64 0),(.int .i64 0),(.int .i64 0),(.slice .c0 []),(.slice .c0 [])]),
 ox (.store 10 (.tmp 1) (.tmp 80)),
 ox (.store 7 (.tmp 14) (.tmp 81))] false [1,2,3,4,5,6,7,9,11,13,14]) Vb)
def Vd:aO :=
 (.seq (.region [
 ob 71 (.eT 10 (.tmp 1)),
 ob 72 (.build [(.int .i64 0),(.int .i64 0),(.str []),(.str []),(.int .i64 0),(.int .i64 0),(.int .i64 0),(.slice .c0 [])] [(0,1,(.ep (.int .i64 1))),(2,1,(.ep (.str [47,100,47,102])))]),
 ob 73 (.call 14 [(.tmp 71),(.tmp 72)]),
 ob 70 (.mv (.tmp 73)),
 ob 74 (.extract (.tmp 70) 0),
 ob 75 (.extract (.tmp 70) 1),
 ob 12 (.iB [(.slice .c0 []),(.int .i64 0),(.int .i64 0),(.int .i64 0),(.slice .c0 []),(.slice .c0 []),(.slice .c0 []),(.int .i64 0),(.slice .c0 []),(.slice .c0 [])]),
 ob 13 (.iB [(.int .i64 0),(.int .i64 0),(.int .i64 0),(.int .i64 0),(.int .i64 0),(.slice .c0 []),(.slice .c0 [])]),
 ox (.store 10 (.tmp 12) (.tmp 74)),
 ox (.store 7 (.tmp 13) (.tmp 75))] false [1,2,3,4,5,6,7,9,11,13]) Vc)
def Ve:aO :=
 (.seq (.region [
 ob 63 (.eT 10 (.tmp 1)),
 ob 64 (.du 3 (.tmp 6)),
 ob 65 (.cY (.tmp 64)),
 ob 66 (.build [(.int .i64 0),(.int .i64 0),(.str []),(.str []),(.int .i64 0),(.int .i64 0),(.int .i64 0),(.slice .c0 [])] [(0,1,(.ep (.int .i64 15))),(4,1,(.tmp 65)),(2,1,(.ep (.str [47,102])))]),
 ob 67 (.call 14 [(.tmp 63),(.tmp 66)]),
 ob 62 (.mv (.tmp 67)),
 ob 68 (.extract (.tmp 62) 0),
 ob 69 (.extract (.tmp 62) 1),
 ob 10 (.iB [(.slice .c0 []),(.int .i64 0),(.int .i64 0),(.int .i64 0),(.slice .c0 []),(.slice .c0 []),(.slice .c0 []),(.int .i64 0),(.slice .c0 []),(.slice .c0 [])]),
 ob 11 (.iB [(.int .i64 0),(.int .i64 0),(.int .i64 0),(.int .i64 0),(.int .i64 0),(.slice .c0 []),(.slice .c0 [])]),
 ox (.store 10 (.tmp 10) (.tmp 68)),
 ox (.store 7 (.tmp 11) (.tmp 69))] false [1,2,3,4,5,6,7,9,11]) Vd)
def Vf:aO :=
 (.seq (.region [
 ob 57 (.eT 10 (.tmp 1)),
 ob 58 (.build [(.int .i64 0),(.int .i64 0),(.str []),(.str []),(.int .i64 0),(.int .i64 0),(.int .i64 0),(.slice .c0 [])] [(0,1,(.ep (.int .i64 10))),(6,1,(.ep (.int .i64 4))),(5,1,(.ep (.int .i64 9)))]),
 ob 59 (.call 14 [(.tmp 57),(.tmp 58)]),
 ob 56 (.mv (.tmp 59)),
 ob 60 (.extract (.tmp 56) 0),
 ob 61 (.extract (.tmp 56) 1),
 ob 8 (.iB [(.slice .c0 []),(.int .i64 0),(.int .i64 0),(.int .i64 0),(.slice .c0 []),(.slice .c0 []),(.slice .c0 []),(.int .i64 0),(.slice .c0 []),(.slice .c0 [])]),
 ob 9 (.iB [(.int .i64 0),(.int .i64 0),(.int .i64 0),(.int .i64 0),(.int .i64 0),(.slice .c0 []),(.slice .c0 [])]),
 ox (.store 10 (.tmp 8) (.tmp 60)),
 ox (.store 7 (.tmp 9) (.tmp 61))] false [1,2,3,4,5,6,7,9]) Ve)
def PB:aO :=
 (.seq (.region [
 ob 51 (.eT 10 (.tmp 1)),
 ob 52 (.build [(.int .i64 0),(.int .i64 0),(.str []),(.str []),(.int .i64 0),(.int .i64 0),(.int .i64 0),(.slice .c0 [])] [(0,1,(.ep (.int .i64 4))),(2,1,(.ep (.str [47,100,47,102])))]),
 ob 53 (.call 14 [(.tmp 51),(.tmp 52)]),
 ob 50 (.mv (.tmp 53)),
 ob 54 (.extract (.tmp 50) 0),
 ob 55 (.extract (.tmp 50) 1),
 ob 7 (.iB [(.int .i64 0),(.int .i64 0),(.int .i64 0),(.int .i64 0),(.int .i64 0),(.slice .c0 []),(.slice .c0 [])]),
 ox (.store 10 (.tmp 1) (.tmp 54)),
 ox (.store 7 (.tmp 7) (.tmp 55))] false [1,2,3,4,5,6,7]) Vf)
def PC:aO :=
 (.seq (.region [
 ob 45 (.eT 10 (.tmp 1)),
 ob 46 (.build [(.int .i64 0),(.int .i64 0),(.str []),(.str []),(.int .i64 0),(.int .i64 0),(.int .i64 0),(.slice .c0 [])] [(0,1,(.ep (.int .i64 14))),(2,1,(.ep (.str [47,100])))]),
 ob 47 (.call 14 [(.tmp 45),(.tmp 46)]),
 ob 44 (.mv (.tmp 47)),
 ob 48 (.extract (.tmp 44) 0),
 ob 49 (.extract (.tmp 44) 1),
 ob 6 (.iB [(.int .i64 0),(.int .i64 0),(.int .i64 0),(.int .i64 0),(.int .i64 0),(.slice .c0 []),(.slice .c0 [])]),
 ox (.store 10 (.tmp 1) (.tmp 48)),
 ox (.store 7 (.tmp 6) (.tmp 49))] false [1,2,3,4,5,6]) PB)
def PD:aO :=
 (.seq (.region [
 ob 38 (.eT 10 (.tmp 1)),
 ob 39 (.lits 1 [(.ep (.int .u8 7)),(.ep (.int .u8 8))]),
 ob 40 (.build [(.int .i64 0),(.int .i64 0),(.str []),(.str []),(.int .i64 0),(.int .i64 0),(.int .i64 0),(.slice .c0 [])] [(0,1,(.ep (.int .i64 11))),(6,1,(.ep (.int .i64 4))),(4,1,(.ep (.int .i64 1))),(7,1,(.tmp 39))]),
 ob 41 (.call 14 [(.tmp 38),(.tmp 40)]),
 ob 37 (.mv (.tmp 41)),
 ob 42 (.extract (.tmp 37) 0),
 ob 43 (.extract (.tmp 37) 1),
 ob 5 (.iB [(.int .i64 0),(.int .i64 0),(.int .i64 0),(.int .i64 0),(.int .i64 0),(.slice .c0 []),(.slice .c0 [])]),
 ox (.store 10 (.tmp 1) (.tmp 42)),
 ox (.store 7 (.tmp 5) (.tmp 43))] false [1,2,3,4,5]) PC)
def PE:aO :=
 (.seq (.region [
 ob 32 (.eT 10 (.tmp 1)),
 ob 33 (.build [(.int .i64 0),(.int .i64 0),(.str []),(.str []),(.int .i64 0),(.int .i64 0),(.int .i64 0),(.slice .c0 [])] [(0,1,(.ep (.int .i64 8))),(2,1,(.ep (.str [47,100,47,102]))),(6,1,(.ep (.int .i64 4)))]),
 ob 34 (.call 14 [(.tmp 32),(.tmp 33)]),
 ob 31 (.mv (.tmp 34)),
 ob 35 (.extract (.tmp 31) 0),
 ob 36 (.extract (.tmp 31) 1),
 ob 4 (.iB [(.int .i64 0),(.int .i64 0),(.int .i64 0),(.int .i64 0),(.int .i64 0),(.slice .c0 []),(.slice .c0 [])]),
 ox (.store 10 (.tmp 1) (.tmp 35)),
 ox (.store 7 (.tmp 4) (.tmp 36))] false [1,2,3,4]) PD)
def PF:aO :=
 (.seq (.region [
 ob 26 (.eT 10 (.tmp 1)),
 ob 27 (.build [(.int .i64 0),(.int .i64 0),(.str []),(.str []),(.int .i64 0),(.int .i64 0),(.int .i64 0),(.slice .c0 [])] [(0,1,(.ep (.int .i64 2))),(2,1,(.ep (.str [47,100,47,102]))),(4,1,(.ep (.int .i64 1)))]),
 ob 28 (.call 14 [(.tmp 26),(.tmp 27)]),
 ob 25 (.mv (.tmp 28)),
 ob 29 (.extract (.tmp 25) 0),
 ob 30 (.extract (.tmp 25) 1),
 ob 3 (.iB [(.int .i64 0),(.int .i64 0),(.int .i64 0),(.int .i64 0),(.int .i64 0),(.slice .c0 []),(.slice .c0 [])]),
 ox (.store 10 (.tmp 1) (.tmp 29)),
 ox (.store 7 (.tmp 3) (.tmp 30))] false [1,2,3]) PE)
def PG:aO :=
 (.seq (.region [
 ob 20 (.call 20 []),
 ob 21 (.build [(.int .i64 0),(.int .i64 0),(.str []),(.str []),(.int .i64 0),(.int .i64 0),(.int .i64 0),(.slice .c0 [])] [(0,1,(.ep (.int .i64 2))),(2,1,(.ep (.str [47,100]))),(4,1,(.ep (.int .i64 2)))]),
 ob 22 (.call 14 [(.tmp 20),(.tmp 21)]),
 ob 19 (.mv (.tmp 22)),
 ob 23 (.extract (.tmp 19) 0),
 ob 24 (.extract (.tmp 19) 1),
 ob 1 (.iB [(.slice .c0 []),(.int .i64 0),(.int .i64 0),(.int .i64 0),(.slice .c0 []),(.slice .c0 []),(.slice .c0 []),(.int .i64 0),(.slice .c0 []),(.slice .c0 [])]),
 ob 2 (.iB [(.int .i64 0),(.int .i64 0),(.int .i64 0),(.int .i64 0),(.int .i64 0),(.slice .c0 []),(.slice .c0 [])]),
 ox (.store 10 (.tmp 1) (.tmp 23)),
 ox (.store 7 (.tmp 2) (.tmp 24))] false [1,2]) PF)
def E10:=And.intro (eF U6.eq_1) (And.intro (eF U7.eq_1) (And.intro (eF U8.eq_1) (And.intro (eF U9.eq_1) (And.intro (eF Va.eq_1) (And.intro (eF Vb.eq_1) (And.intro (eF Vc.eq_1) (And.intro (eF Vd.eq_1) (And.intro (eF Ve.eq_1) (And.intro (eF Vf.eq_1) (And.intro (eF PB.eq_1) (And.intro (eF PC.eq_1) (And.intro (eF PD.eq_1) (And.intro (eF PE.eq_1) (And.intro (eF PF.eq_1) (eF PG.eq_1)))))))))))))))
def aaN:xn:={ n:=212,own:=[],lv:=[(0,[]),(1,[1,2]),(2,[1,2,3]),(3,[1,2,3,4]),(4,[1,2,3,4,5]),(5,[1,2,3,4,5,6]),(6,[1,2,3,4,5,6,7]),(7,[1,2,3,4,5,6,7,9]),(8,[1,2,3,4,5,6,7,9,11]),(9,[1,2,3,4,5,6,7,9,11,13]),(10,[1,2,3,4,5,6,7,9,11,13,14]),(11,[1,2,3,4,5,6,7,9,11,13,14,15]),(12,[1,2,3,4,5,6,7,9,11,13,14,15,16]),(13,[1,2,3,4,5,6,7,9,11,13,14,15,16,18]),(14,[1,2,3,4,5,6,7,9,11,13,14,15,16,18,109]),(15,[0]),(16,[0])],lp:=[] }
def Wt:bD:=bD.mk 0 [.tmp 0]
 (.seq (.region [
 ob 0 (.mv (.ep (.bool false)))] false []) PG)
def amr:iq Tryz.prog aaN Tryz.f10=some Wt:=by kernel_rfl
def Xr:Ko [] Tryz.f11:=by apply Subtype.mk; cbv
def b11:=Xr.1
def Wu:=bD.mk 1 [.tmp 2] (sub b11 0)
def ams:bO [] Tryz.f11 Wu:=bP
def E11:=by
 have h:=cd b11 Xr.1;simp only[Xr,bZ,simprocAttr] at h;exact h
def Xt:Ko [] Tryz.f12:=by apply Subtype.mk; cbv
def b12:=Xt.1
def Wv:=bD.mk 1 [.tmp 2] (sub b12 0)
def amt:bO [] Tryz.f12 Wv:=bP
def E12:=by
 have h:=cd b12 Xt.1;simp only[Xt,bZ,simprocAttr] at h;exact h
def al6:Ko [5000016] Tryz.f21:=by apply Subtype.mk; cbv
def b21:=al6.1
def ado:=bD.mk 2 [.tmp 4,.tmp 5] (sub b21 0)
def amB:bO [5000016] Tryz.f21 ado:=bP
def ko3:Ko [] Tryz.f3:=by apply Subtype.mk; cbv
def b3:=ko3.1
def fn3:=bD.mk 2 [.tmp 4] (sub b3 0)
def ok3:bO [] Tryz.f3 fn3:=bP
def ko4:Ko [] Tryz.f4:=by apply Subtype.mk; cbv
def b4:=ko4.1
def fn4:=bD.mk 2 [.tmp 4] (sub b4 0)
def ok4:bO [] Tryz.f4 fn4:=bP
def E4:=by
 have h:=cd b4 ko4.1;simp only[ko4,bZ,simprocAttr] at h;exact h
def ko5:Ko [] Tryz.f5:=by apply Subtype.mk; cbv
def b5:=ko5.1
def fn5:=bD.mk 2 [.tmp 4] (sub b5 0)
def ok5:bO [] Tryz.f5 fn5:=bP
def ko6:Ko [] Tryz.f6:=by apply Subtype.mk; cbv
def b6:=ko6.1
def fn6:=bD.mk 4 [.tmp 8] (sub b6 0)
def ok6:bO [] Tryz.f6 fn6:=bP
def ko7:Ko [] Tryz.f7:=by apply Subtype.mk; cbv
def b7:=ko7.1
def fn7:=bD.mk 4 [.tmp 8] (sub b7 0)
def ok7:bO [] Tryz.f7 fn7:=bP
def ko9:Ko [] Tryz.f9:=by apply Subtype.mk; cbv
def b9:=ko9.1
def fn9:=bD.mk 4 [.tmp 8] (sub b9 0)
def ok9:bO [] Tryz.f9 fn9:=bP
def E9:=by
 have h:=cd b9 ko9.1;simp only[ko9,bZ,simprocAttr] at h;exact h
def Xu:Ko [] Tryz.f13:=by apply Subtype.mk; cbv
def b13:=Xu.1
def JK:=bD.mk 1 [.bl 2 10] (sub b13 0)
def amu:bO [] Tryz.f13 JK:=bP
def E13:=by
 have h:=cd b13 Xu.1;simp only[Xu,bZ,simprocAttr] at h;exact h
def al5:Ko [19] Tryz.f19:=by apply Subtype.mk; cbv
def b19:=al5.1
def adn:=bD.mk 2 [.tmp 4] (sub b19 0)
def amz:bO [19] Tryz.f19 adn:=bP
end Go.Proofs.YtahkjijkflobhaaGreatDoor
set_option linter.defProp false
set_option maxRecDepth 100000
namespace Go.Proofs.YtahkjijkflobhaaGreatDoor
open Go Go.Abs
def al3:Ko [] Tryz.f15:=by apply Subtype.mk; cbv
def b15:=al3.1
def adl:=bD.mk 1 [.tmp 2] (sub b15 0)
def amv:bO [] Tryz.f15 adl:=bP
def al8:Ko [] Tryz.f29:=by apply Subtype.mk; cbv
def b29:=al8.1
def adq:=bD.mk 1 [.tmp 2] (sub b29 0)
def amH:bO [] Tryz.f29 adq:=bP
def al9:Ko [] Tryz.f30:=by apply Subtype.mk; cbv
def b30:=al9.1
def adr:=bD.mk 2 [.tmp 4] (sub b30 0)
def amI:bO [] Tryz.f30 adr:=bP
def ama:Ko [] Tryz.f31:=by apply Subtype.mk; cbv
def b31:=ama.1
def ads:=bD.mk 2 [.tmp 4] (sub b31 0)
def amJ:bO [] Tryz.f31 ads:=bP
def ami:Ko [] Tryz.f79:=by apply Subtype.mk; cbv
def b79:=ami.1
def adz:=bD.mk 1 [.tmp 2] (sub b79 0)
def ant:bO [] Tryz.f79 adz:=bP
def amk:Ko [] Tryz.f80:=by apply Subtype.mk; cbv
def b80:=amk.1
def adA:=bD.mk 2 [.tmp 4] (sub b80 0)
def anu:bO [] Tryz.f80 adA:=bP
def amm:Ko [] Tryz.f82:=by apply Subtype.mk; cbv
def b82:=amm.1
def adC:=bD.mk 1 [.tmp 2] (sub b82 0)
def anw:bO [] Tryz.f82 adC:=bP
def amn:Ko [] Tryz.f83:=by apply Subtype.mk; cbv
def b83:=amn.1
def adE:=bD.mk 1 [.tmp 2] (sub b83 0)
def anx:bO [] Tryz.f83 adE:=bP
def aez:Ko [] Tryz.f149:=by apply Subtype.mk; cbv
def aiB:=aez.1
def UH:=bD.mk 1 [.tmp 2,.tmp 3] (sub aiB 0)
def afr:bO [] Tryz.f149 UH:=bP
def aeA:Ko [] Tryz.f150:=by apply Subtype.mk; cbv
def aiC:=aeA.1
def UI:=bD.mk 4 [.tmp 8] (sub aiC 0)
def afu:bO [] Tryz.f150 UI:=bP
def aeB:Ko [] Tryz.f151:=by apply Subtype.mk; cbv
def aiD:=aeB.1
def UJ:=bD.mk 2 [.tmp 4] (sub aiD 0)
def afv:bO [] Tryz.f151 UJ:=bP
def aeD:Ko [] Tryz.f156:=by apply Subtype.mk; cbv
def aiF:=aeD.1
def UL:=bD.mk 2 [.tmp 4] (sub aiF 0)
def afA:bO [] Tryz.f156 UL:=bP
def Zz:aO :=
 (.seq (.region [
 ob 4 (.mv (.ep (.bool false)))] false [4]) (.ret))
def ZA:aO :=
 (.seq (.region [
 ob 26 (.mv (.tmp 9)),
 ob 27 (.not (.tmp 26)),
 ob 28 (.mv (.tmp 27)),
 og 29 28 false (.du 0 (.tmp 7)),
 og 30 28 false (.cY (.tmp 29)),
 og 31 28 false (.call 207 [(.tmp 30)]),
 og 32 28 false (.not (.tmp 31)),
 ob 33 (.pick (.tmp 28) (.ep (.bool true)) (.tmp 32)),
 ob 34 (.mv (.tmp 33)),
 og 35 34 false (.du 2 (.tmp 7)),
 og 36 34 false (.cY (.tmp 35)),
 og 37 34 false (.bin .lss (.tmp 36) (.ep (.int .i64 1))),
 ob 38 (.pick (.tmp 34) (.ep (.bool true)) (.tmp 37)),
 ob 39 (.mv (.tmp 38)),
 og 40 39 false (.du 2 (.tmp 7)),
 og 41 39 false (.cY (.tmp 40)),
 og 42 39 false (.mv (.tmp 0)),
 og 43 39 false (.Rb (.tmp 42)),
 og 44 39 false (.du 0 (.tmp 43)),
 og 45 39 false (.du 2 (.tmp 44)),
 og 46 39 false (.cY (.tmp 45)),
 og 47 39 false (.bin .geq (.tmp 41) (.tmp 46)),
 ob 48 (.pick (.tmp 39) (.ep (.bool true)) (.tmp 47)),
 ob 49 (.mv (.tmp 48)),
 og 50 49 false (.mv (.tmp 5)),
 og 51 49 false (.du 2 (.tmp 7)),
 og 52 49 false (.cY (.tmp 51)),
 og 53 49 false (.look .i (.bool false) false (.tmp 50) (.tmp 52)),
 ob 54 (.pick (.tmp 49) (.ep (.bool true)) (.tmp 53)),
 ob 55 (.mv (.tmp 54)),
 og 56 55 false (.mv (.tmp 6)),
 og 57 55 false (.bin .gtr (.tmp 56) (.ep (.int .i64 0))),
 og 58 55 false (.mv (.tmp 57)),
 og 59 58 true (.du 4 (.tmp 3)),
 og 60 58 true (.cY (.tmp 59)),
 og 61 58 true (.mv (.tmp 6)),
 og 62 58 true (.bin .sub (.tmp 61) (.ep (.int .i64 1))),
 og 63 58 true (.mY 3 (.tmp 60) (.tmp 62)),
 og 64 58 true (.du 0 (.tmp 63)),
 og 65 58 true (.cY (.tmp 64)),
 og 66 58 true (.du 0 (.tmp 7)),
 og 67 58 true (.cY (.tmp 66)),
 og 68 58 true (.bin .geq (.tmp 65) (.tmp 67)),
 og 69 55 false (.pick (.tmp 58) (.tmp 68) (.ep (.bool false))),
 ob 70 (.pick (.tmp 55) (.ep (.bool true)) (.tmp 69))] true [0,3,5,7,12,13,14,70]) (.cond (.tmp 70) Zz (.skip)))
def ZB:aO :=
 (.region [
 ob 71 (.mv (.tmp 5)),
 ob 72 (.du 2 (.tmp 7)),
 ob 73 (.cY (.tmp 72)),
 ox (.cH .i (.tmp 71) (.tmp 73) (.ep (.bool true)))] false [0,3,5,12,13,14])
def ZC:aO :=
 (.seq (.seq (.region [
 ob 20 (.mv (.tmp 0)),
 ob 21 (.du 1 (.tmp 7)),
 ob 22 (.cY (.tmp 21)),
 ob 23 (.call 243 [(.tmp 20),(.tmp 22)]),
 ob 19 (.mv (.tmp 23)),
 ob 24 (.extract (.tmp 19) 0),
 ob 25 (.extract (.tmp 19) 1),
 ob 8 (.mv (.tmp 24)),
 ob 9 (.mv (.tmp 25))] false [0,3,5,6,7,9,12,13,14]) ZA) ZB)
def ZD:aO :=
 (.region [
 ob 74 (.bin .add (.tmp 14) (.ep (.int .i64 1))),
 ob 14 (.mv (.tmp 74))] false [0,3,5,12,13,14])
def ZE:aO :=
 (.seq (.block 1 (.seq (.region [
 ob 16 (.mv (.tmp 14)),
 ob 17 (.mY 3 (.tmp 12) (.tmp 14)),
 ob 18 (.eT 3 (.tmp 17)),
 ob 7 (.iB [(.str []),(.int .i64 0),(.int .i64 0)]),
 ob 6 (.mv (.tmp 16)),
 ox (.store 3 (.tmp 7) (.tmp 18))] false [0,3,5,6,7,12,13,14]) ZC)) ZD)
def ZF:aO :=
 (.seq (.cond (.tmp 15) (.skip) (.exit 0)) ZE)
def St:aO :=
 (.seq (.region [
 ob 15 (.bin .lss (.tmp 14) (.tmp 13))] false [0,3,5,12,13,14,15]) ZF)
def ZG:aO :=
 (.block 0 (.loop [0,3,5,12,13,14] St))
def ZH:aO :=
 (.seq (.region [
 ob 75 (.du 4 (.tmp 3)),
 ob 76 (.cY (.tmp 75)),
 ob 77 (.wJ (.tmp 76)),
 ob 78 (.bin .leq (.tmp 77) (.ep (.int .i64 64))),
 ob 4 (.mv (.tmp 78))] false [4]) (.ret))
def ZI:aO :=
 (.seq (.seq (.region [
 ob 11 (.du 4 (.tmp 3)),
 ob 12 (.cY (.tmp 11)),
 ob 13 (.wJ (.tmp 12)),
 ob 14 (.mv (.ep (.int .i64 0)))] false [0,3,5,12,13,14]) ZG) ZH)
def TR:aO :=
 (.seq (.region [
 ob 10 (.mkMap),
 ob 5 (.mv (.tmp 10))] false [0,3,5]) ZI)
def VJ:xn:={ n:=79,own:=[],lv:=[(0,[0,3]),(1,[0,3,5]),(2,[0,3,5,12,13,14]),(3,[0,3,5,12,13,14,15]),(4,[0,3,5,6,7,12,13,14]),(5,[0,3,5,6,7,9,12,13,14]),(6,[0,3,5,7,12,13,14,70]),(7,[4]),(8,[0,3,5,12,13,14]),(9,[0,3,5,12,13,14]),(10,[4])],lp:=[(3,[0,3,5,12,13,14])] }
def UO:bD:=bD.mk 2 [.tmp 4]
 (.seq (.region [
 ob 3 (.box (.tmp 1)),
 ob 4 (.mv (.ep (.bool false)))] false [0,3]) TR)
def agH:iq Tryz.prog VJ Tryz.f236=some UO:=by kernel_rfl
def aeG:Ko [] Tryz.f240:=by apply Subtype.mk; cbv
def aiI:=aeG.1
def UQ:=bD.mk 2 [.tmp 4] (sub aiI 0)
def agL:bO [] Tryz.f240 UQ:=bP
def aml:Ko [] Tryz.f81:=by apply Subtype.mk; cbv
def b81:=aml.1
def adB:=bD.mk 2 [.tmp 3] (sub b81 0)
def anv:bO [] Tryz.f81 adB:=bP
def amp:Ko [] Tryz.f91:=by apply Subtype.mk; cbv
def b91:=amp.1
def adG:=bD.mk 2 [.tmp 3] (sub b91 0)
def anH:bO [] Tryz.f91 adG:=bP
def aeC:Ko [] Tryz.f155:=by apply Subtype.mk; cbv
def aiE:=aeC.1
def UK:=bD.mk 2 [.tmp 3] (sub aiE 0)
def afz:bO [] Tryz.f155 UK:=bP
end Go.Proofs.YtahkjijkflobhaaGreatDoor
set_option linter.defProp false
set_option maxRecDepth 100000
namespace Go.Proofs.YtahkjijkflobhaaGreatDoor
open Go Go.Abs
def XE:Ko [] Tryz.f34:=by apply Subtype.mk; cbv
def b34:=XE.1
def WE:=bD.mk 2 [.tmp 4] (sub b34 0)
def amM:bO [] Tryz.f34 WE:=bP
abbrev Yx:=sub b34 7
def VH:=by
 have h:=cd b34 XE.1;simp only[XE,bZ,simprocAttr] at h;exact h
def Xw:Ko [] Tryz.f18:=by apply Subtype.mk; cbv
def b18:=Xw.1
def Wx:=bD.mk 2 [.bl 4 6,.tmp 5] (sub b18 0)
def amy:bO [] Tryz.f18 Wx:=bP
def E18:=by
 have h:=cd b18 Xw.1;simp only[Xw,bZ,simprocAttr] at h;exact h
def MR:Ko [] Tryz.f179:=by apply Subtype.mk; cbv
def abA:=MR.1
def Kb:=bD.mk 2 [.bl 4 6,.tmp 5] (sub abA 0)
def afW:bO [] Tryz.f179 Kb:=bP
def QD:=by
 have h:=cd abA MR.1;simp only[MR,bZ,simprocAttr] at h;exact h
def MS:Ko [] Tryz.f180:=by apply Subtype.mk; cbv
def V0:=MS.1
def Kc:=bD.mk 2 [.tmp 4] (sub V0 0)
def afX:bO [] Tryz.f180 Kc:=bP
abbrev Se:=sub V0 7
def CS:=by
 have h:=cd V0 MS.1;simp only[MS,bZ,simprocAttr] at h;exact h
def LP:Ko [] Tryz.f108:=by apply Subtype.mk; cbv
def aaV:=LP.1
def Jz:=bD.mk 3 [.tmp 6,.tmp 7] (sub aaV 0)
def aeR:bO [] Tryz.f108 Jz:=bP
def CO:=by
 have h:=cd aaV LP.1;simp only[LP,bZ,simprocAttr] at h;exact h
def MN:Ko [5] Tryz.f175:=by apply Subtype.mk; cbv
def VY:=MN.1
def J8:=bD.mk 2 [.bl 4 3] (sub VY 0)
def afS:bO [5] Tryz.f175 J8:=bP
abbrev R9:=sub VY 11
def CQ:=by
 have h:=cd VY MN.1;simp only[MN,bZ,simprocAttr] at h;exact h
def NS:Ko [5] Tryz.f250:=by apply Subtype.mk; cbv
def Wc:=NS.1
def KZ:=bD.mk 2 [.bl 4 3] (sub Wc 0)
def agT:bO [5] Tryz.f250 KZ:=bP
abbrev Sx:=sub Wc 9
def Iv:=by
 have h:=cd Wc NS.1;simp only[NS,bZ,simprocAttr] at h;exact h
def MQ:Ko [9] Tryz.f178:=by apply Subtype.mk; cbv
def VZ:=MQ.1
def Ka:=bD.mk 3 [.bl 6 3] (sub VZ 0)
def afV:bO [9] Tryz.f178 Ka:=bP
abbrev Sd:=sub VZ 11
def CR:=by
 have h:=cd VZ MQ.1;simp only[MQ,bZ,simprocAttr] at h;exact h
def MM:Ko [12] Tryz.f174:=by apply Subtype.mk; cbv
def VX:=MM.1
def J7:=bD.mk 4 [.bl 8 3] (sub VX 0)
def afR:bO [12] Tryz.f174 J7:=bP
abbrev R8:=sub VX 15
def ze:=by
 have h:=cd VX MM.1;simp only[MM,bZ,simprocAttr] at h;exact h
def MU:Ko [] Tryz.f182:=by apply Subtype.mk; cbv
def V1:=MU.1
def Ke:=bD.mk 2 [.tmp 4] (sub V1 0)
def afZ:bO [] Tryz.f182 Ke:=bP
abbrev Sf:=sub V1 7
def CT:=by
 have h:=cd V1 MU.1;simp only[MU,bZ,simprocAttr] at h;exact h
def XJ:Ko [] Tryz.f39:=by apply Subtype.mk; cbv
def b39:=XJ.1
def WJ:=bD.mk 3 [.tmp 6] (sub b39 0)
def amR:bO [] Tryz.f39 WJ:=bP
abbrev YA:=sub b39 7
def QO:=by
 have h:=cd b39 XJ.1;simp only[XJ,bZ,simprocAttr] at h;exact h
def NN:Ko [] Tryz.f246:=by apply Subtype.mk; cbv
def acd:=NN.1
def KX:=bD.mk 2 [.tmp 4] (sub acd 0)
def agP:bO [] Tryz.f246 KX:=bP
def aaG:=by
 have h:=cd acd NN.1;simp only[NN,bZ,simprocAttr] at h;exact h
def ML:Ko [] Tryz.f173:=by apply Subtype.mk; cbv
def aby:=ML.1
def J6:=bD.mk 3 [.tmp 6] (sub aby 0)
def afQ:bO [] Tryz.f173 J6:=bP
def zd:=by
 have h:=cd aby ML.1;simp only[ML,bZ,simprocAttr] at h;exact h
def LN:Ko [] Tryz.f106:=by apply Subtype.mk; cbv
def aaT:=LN.1
def Jw:=bD.mk 4 [.bl 8 3,.tmp 9,.tmp 10] (sub aaT 0)
def aeP:bO [] Tryz.f106 Jw:=bP
def aao:=by
 have h:=cd aaT LN.1;simp only[LN,bZ,simprocAttr] at h;exact h
def LL:Ko [] Tryz.f104:=by apply Subtype.mk; cbv
def aaR:=LL.1
def Jv:=bD.mk 4 [.bl 8 3,.tmp 9] (sub aaR 0)
def aeN:bO [] Tryz.f104 Jv:=bP
def aan:=by
 have h:=cd aaR LL.1;simp only[LL,bZ,simprocAttr] at h;exact h
def MP:Ko [] Tryz.f177:=by apply Subtype.mk; cbv
def abz:=MP.1
def J9:=bD.mk 2 [.bl 4 3] (sub abz 0)
def afU:bO [] Tryz.f177 J9:=bP
def aaz:=by
 have h:=cd abz MP.1;simp only[MP,bZ,simprocAttr] at h;exact h
def LO:Ko [] Tryz.f107:=by apply Subtype.mk; cbv
def aaU:=LO.1
def Jy:=bD.mk 3 [.bl 6 3,.tmp 7,.tmp 8] (sub aaU 0)
def aeQ:bO [] Tryz.f107 Jy:=bP
def aap:=by
 have h:=cd aaU LO.1;simp only[LO,bZ,simprocAttr] at h;exact h
def MT:Ko [] Tryz.f181:=by apply Subtype.mk; cbv
def abB:=MT.1
def Kd:=bD.mk 3 [.tmp 6] (sub abB 0)
def afY:bO [] Tryz.f181 Kd:=bP
def aaA:=by
 have h:=cd abB MT.1;simp only[MT,bZ,simprocAttr] at h;exact h
def MV:Ko [] Tryz.f183:=by apply Subtype.mk; cbv
def V2:=MV.1
def Kf:=bD.mk 3 [.tmp 6] (sub V2 0)
def af0:bO [] Tryz.f183 Kf:=bP
abbrev Sg:=sub V2 11
def It:=by
 have h:=cd V2 MV.1;simp only[MV,bZ,simprocAttr] at h;exact h
def LQ:Ko [] Tryz.f109:=by apply Subtype.mk; cbv
def aaW:=LQ.1
def JA:=bD.mk 5 [.bl 10 3,.tmp 11,.tmp 12] (sub aaW 0)
def aeS:bO [] Tryz.f109 JA:=bP
def vB:=by
 have h:=cd aaW LQ.1;simp only[LQ,bZ,simprocAttr] at h;exact h
def L0:Ko [27] Tryz.f118:=by apply Subtype.mk; cbv
def aa1:=L0.1
def JC:=bD.mk 3 [.bl 6 3,.tmp 7] (sub aa1 0)
def ae1:bO [27] Tryz.f118 JC:=bP
def aas:=by
 have h:=cd aa1 L0.1;simp only[L0,bZ,simprocAttr] at h;exact h
def M5:Ko [] Tryz.f190:=by apply Subtype.mk; cbv
def abI:=M5.1
def Kk:=bD.mk 2 [.bl 4 3,.tmp 5] (sub abI 0)
def af7:bO [] Tryz.f190 Kk:=bP
def aaB:=by
 have h:=cd abI M5.1;simp only[M5,bZ,simprocAttr] at h;exact h
def XM:Ko [] Tryz.f48:=by apply Subtype.mk; cbv
def b48:=XM.1
def WM:=bD.mk 0 [.bl 0 3] (sub b48 0)
def am0:bO [] Tryz.f48 WM:=bP
def E48:=by
 have h:=cd b48 XM.1;simp only[XM,bZ,simprocAttr] at h;exact h
def Yq:Ko [] Tryz.f97:=by apply Subtype.mk; cbv
def b97:=Yq.1
def W8:=bD.mk 1 [.tmp 2] (sub b97 0)
def anN:bO [] Tryz.f97 W8:=bP
abbrev YP:=sub b97 15
def Uj:=by
 have h:=cd b97 Yq.1;simp only[Yq,bZ,simprocAttr] at h;exact h
end Go.Proofs.YtahkjijkflobhaaGreatDoor
set_option linter.defProp false
set_option maxRecDepth 100000
namespace Go.Proofs.YtahkjijkflobhaaGreatDoor
open Go Go.Abs
def XF:Ko [7] Tryz.f35:=by apply Subtype.mk; cbv
def b35:=XF.1
def GX:=bD.mk 1 [.tmp 2,.tmp 3] (sub b35 0)
def amN:bO [7] Tryz.f35 GX:=bP
abbrev Yy:=sub b35 27
def Ic:=by
 have h:=cd b35 XF.1;simp only[XF,bZ,simprocAttr] at h;exact h
def XG:Ko [] Tryz.f36:=by apply Subtype.mk; cbv
def b36:=XG.1
def WG:=bD.mk 1 [.tmp 2] (sub b36 0)
def amO:bO [] Tryz.f36 WG:=bP
abbrev Yz:=sub b36 17
def E36:=by
 have h:=cd b36 XG.1;simp only[XG,bZ,simprocAttr] at h;exact h
def XU:Ko [] Tryz.f55:=by apply Subtype.mk; cbv
def b55:=XU.1
def Ld:=bD.mk 3 [.bl 6 3,.tmp 7] (sub b55 0)
def am7:bO [] Tryz.f55 Ld:=bP
def E55:=by
 have h:=cd b55 XU.1;simp only[XU,bZ,simprocAttr] at h;exact h
def Yo:Ko [] Tryz.f95:=by apply Subtype.mk; cbv
def b95:=Yo.1
def W6:=bD.mk 2 [.tmp 4] (sub b95 0)
def anL:bO [] Tryz.f95 W6:=bP
def E95:=by
 have h:=cd b95 Yo.1;simp only[Yo,bZ,simprocAttr] at h;exact h
def Yp:Ko [] Tryz.f96:=by apply Subtype.mk; cbv
def b96:=Yp.1
def W7:=bD.mk 2 [.tmp 4] (sub b96 0)
def anM:bO [] Tryz.f96 W7:=bP
def E96:=by
 have h:=cd b96 Yp.1;simp only[Yp,bZ,simprocAttr] at h;exact h
def LJ:Ko [] Tryz.f102:=by apply Subtype.mk; cbv
def aaP:=LJ.1
def Ju:=bD.mk 2 [.tmp 4,.tmp 5] (sub aaP 0)
def aeL:bO [] Tryz.f102 Ju:=bP
def Vj:=by
 have h:=cd aaP LJ.1;simp only[LJ,bZ,simprocAttr] at h;exact h
def LS:Ko [13] Tryz.f111:=by apply Subtype.mk; cbv
def QW:=LS.1
def rU:=bD.mk 4 [.tmp 8,.tmp 9,.tmp 10] (sub QW 0)
def aeU:bO [13] Tryz.f111 rU:=bP
abbrev RT:=sub QW 32
abbrev RU:=sub QW 24
def qO:=by
 have h:=cd QW LS.1;simp only[LS,bZ,simprocAttr] at h;exact h
def LU:Ko [92] Tryz.f112:=by apply Subtype.mk; cbv
def VP:=LU.1
def JB:=bD.mk 5 [.tmp 10,.tmp 11] (sub VP 0)
def aeV:bO [92] Tryz.f112 JB:=bP
abbrev RV:=sub VP 49
def zb:=by
 have h:=cd VP LU.1;simp only[LU,bZ,simprocAttr] at h;exact h
def LV:Ko [17] Tryz.f113:=by apply Subtype.mk; cbv
def VQ:=LV.1
def qe:=bD.mk 5 [.tmp 10,.tmp 11] (sub VQ 0)
def aeW:bO [17] Tryz.f113 qe:=bP
abbrev RX:=sub VQ 49
def vC:=by
 have h:=cd VQ LV.1;simp only[LV,bZ,simprocAttr] at h;exact h
def LX:Ko [29] Tryz.f115:=by apply Subtype.mk; cbv
def aaZ:=LX.1
def x6:=bD.mk 4 [.bl 8 3,.tmp 9,.tmp 10] (sub aaZ 0)
def aeY:bO [29] Tryz.f115 x6:=bP
def Qz:=by
 have h:=cd aaZ LX.1;simp only[LX,bZ,simprocAttr] at h;exact h
def LY:Ko [] Tryz.f116:=by apply Subtype.mk; cbv
def aa0:=LY.1
def E7:=bD.mk 3 [.tmp 6,.tmp 7] (sub aa0 0)
def aeZ:bO [] Tryz.f116 E7:=bP
def aar:=by
 have h:=cd aa0 LY.1;simp only[LY,bZ,simprocAttr] at h;exact h
def MH:Ko [] Tryz.f170:=by apply Subtype.mk; cbv
def abv:=MH.1
def Ff:=bD.mk 2 [.tmp 4] (sub abv 0)
def afN:bO [] Tryz.f170 Ff:=bP
def Iq:=by
 have h:=cd abv MH.1;simp only[MH,bZ,simprocAttr] at h;exact h
def MI:Ko [] Tryz.f171:=by apply Subtype.mk; cbv
def abw:=MI.1
def Fg:=bD.mk 2 [.tmp 4] (sub abw 0)
def afO:bO [] Tryz.f171 Fg:=bP
def Ir:=by
 have h:=cd abw MI.1;simp only[MI,bZ,simprocAttr] at h;exact h
def MJ:Ko [] Tryz.f172:=by apply Subtype.mk; cbv
def abx:=MJ.1
def Bj:=bD.mk 1 [.tmp 2,.tmp 3,.tmp 4] (sub abx 0)
def afP:bO [] Tryz.f172 Bj:=bP
def Vu:=by
 have h:=cd abx MJ.1;simp only[MJ,bZ,simprocAttr] at h;exact h
def MW:Ko [] Tryz.f184:=by apply Subtype.mk; cbv
def abC:=MW.1
def Kg:=bD.mk 2 [.tmp 4] (sub abC 0)
def af1:bO [] Tryz.f184 Kg:=bP
def ah6:=by
 have h:=cd abC MW.1;simp only[MW,bZ,simprocAttr] at h;exact h
def MX:Ko [] Tryz.f185:=by apply Subtype.mk; cbv
def abD:=MX.1
def Kh:=bD.mk 3 [.tmp 6] (sub abD 0)
def af2:bO [] Tryz.f185 Kh:=bP
def Vv:=by
 have h:=cd abD MX.1;simp only[MX,bZ,simprocAttr] at h;exact h
def MY:Ko [] Tryz.f186:=by apply Subtype.mk; cbv
def abE:=MY.1
def Ki:=bD.mk 2 [.tmp 4] (sub abE 0)
def af3:bO [] Tryz.f186 Ki:=bP
def ah7:=by
 have h:=cd abE MY.1;simp only[MY,bZ,simprocAttr] at h;exact h
def MZ:Ko [] Tryz.f187:=by apply Subtype.mk; cbv
def abF:=MZ.1
def Bl:=bD.mk 2 [.tmp 4,.tmp 5] (sub abF 0)
def af4:bO [] Tryz.f187 Bl:=bP
def Vw:=by
 have h:=cd abF MZ.1;simp only[MZ,bZ,simprocAttr] at h;exact h
def M1:Ko [] Tryz.f188:=by apply Subtype.mk; cbv
def abG:=M1.1
def Bm:=bD.mk 2 [.tmp 4] (sub abG 0)
def af5:bO [] Tryz.f188 Bm:=bP
def Vx:=by
 have h:=cd abG M1.1;simp only[M1,bZ,simprocAttr] at h;exact h
def M4:Ko [] Tryz.f189:=by apply Subtype.mk; cbv
def abH:=M4.1
def Kj:=bD.mk 2 [.tmp 4] (sub abH 0)
def af6:bO [] Tryz.f189 Kj:=bP
def QE:=by
 have h:=cd abH M4.1;simp only[M4,bZ,simprocAttr] at h;exact h
def NT:Ko [5000014] Tryz.f251:=by apply Subtype.mk; cbv
def IW:=NT.1
def Bu:=bD.mk 2 [.tmp 4] (sub IW 0)
def agU:bO [5000014] Tryz.f251 Bu:=bP
abbrev Sy:=sub IW 42
abbrev SA:=sub IW 24
abbrev SB:=sub IW 9
def ve:=by
 have h:=cd IW NT.1;simp only[NT,bZ,simprocAttr] at h;exact h
def N8:Ko [] Tryz.f287:=by apply Subtype.mk; cbv
def acr:=N8.1
def Bx:=bD.mk 3 [.tmp 6] (sub acr 0)
def aha:bO [] Tryz.f287 Bx:=bP
def VE:=by
 have h:=cd acr N8.1;simp only[N8,bZ,simprocAttr] at h;exact h
def N9:Ko [] Tryz.f288:=by apply Subtype.mk; cbv
def acs:=N9.1
def Bz:=bD.mk 2 [.tmp 4] (sub acs 0)
def ahb:bO [] Tryz.f288 Bz:=bP
def VF:=by
 have h:=cd acs N9.1;simp only[N9,bZ,simprocAttr] at h;exact h
end Go.Proofs.YtahkjijkflobhaaGreatDoor
set_option linter.defProp false
set_option maxRecDepth 100000
namespace Go.Proofs.YtahkjijkflobhaaGreatDoor
open Go Go.Abs
def Xv:Ko [] Tryz.f16:=by apply Subtype.mk; cbv
def b16:=Xv.1
def Ww:=bD.mk 2 [.tmp 4] (sub b16 0)
def amw:bO [] Tryz.f16 Ww:=bP
def E16:=by
 have h:=cd b16 Xv.1;simp only[Xv,bZ,simprocAttr] at h;exact h
def al4:Ko [] Tryz.f17:=by apply Subtype.mk; cbv
def b17:=al4.1
def adm:=bD.mk 2 [.tmp 4] (sub b17 0)
def amx:bO [] Tryz.f17 adm:=bP
def Xy:Ko [] Tryz.f23:=by apply Subtype.mk; cbv
def b23:=Xy.1
def Wz:=bD.mk 0 [.bl 0 10] (sub b23 0)
def amD:bO [] Tryz.f23 Wz:=bP
def E23:=by
 have h:=cd b23 Xy.1;simp only[Xy,bZ,simprocAttr] at h;exact h
def Xz:Ko [] Tryz.f24:=by apply Subtype.mk; cbv
def b24:=Xz.1
def lr:=bD.mk 2 [.bl 4 10,.bl 5 7] (sub b24 0)
def amE:bO [] Tryz.f24 lr:=bP
def xu:=by
 have h:=cd b24 Xz.1;simp only[Xz,bZ,simprocAttr] at h;exact h
def XD:Ko [] Tryz.f33:=by apply Subtype.mk; cbv
def b33:=XD.1
def WD:=bD.mk 2 [.tmp 4] (sub b33 0)
def amL:bO [] Tryz.f33 WD:=bP
def VG:=by
 have h:=cd b33 XD.1;simp only[XD,bZ,simprocAttr] at h;exact h
def XL:Ko [] Tryz.f47:=by apply Subtype.mk; cbv
def b47:=XL.1
def WL:=bD.mk 1 [.bl 2 8] (sub b47 0)
def amZ:bO [] Tryz.f47 WL:=bP
def E47:=by
 have h:=cd b47 XL.1;simp only[XL,bZ,simprocAttr] at h;exact h
def XN:Ko [] Tryz.f49:=by apply Subtype.mk; cbv
def b49:=XN.1
def WN:=bD.mk 1 [.bl 2 7] (sub b49 0)
def am1:bO [] Tryz.f49 WN:=bP
def E49:=by
 have h:=cd b49 XN.1;simp only[XN,bZ,simprocAttr] at h;exact h
def XO:Ko [] Tryz.f50:=by apply Subtype.mk; cbv
def b50:=XO.1
def xC:=bD.mk 2 [.bl 4 10,.bl 5 7] (sub b50 0)
def am2:bO [] Tryz.f50 xC:=bP
def Ug:=by
 have h:=cd b50 XO.1;simp only[XO,bZ,simprocAttr] at h;exact h
def XP:Ko [14] Tryz.f51:=by apply Subtype.mk; cbv
def b51:=XP.1
def rV:=bD.mk 2 [.bl 4 10,.bl 5 7] (sub b51 0)
def am3:bO [14] Tryz.f51 rV:=bP
abbrev YB:=sub b51 52
def Gj:=by
 have h:=cd b51 XP.1;simp only[XP,bZ,simprocAttr] at h;exact h
def XQ:Ko [] Tryz.f52:=by apply Subtype.mk; cbv
def b52:=XQ.1
def tE:=bD.mk 2 [.bl 4 10,.bl 5 7] (sub b52 0)
def am4:bO [] Tryz.f52 tE:=bP
def Iy:=by
 have h:=cd b52 XQ.1;simp only[XQ,bZ,simprocAttr] at h;exact h
def XR:Ko [17] Tryz.f53:=by apply Subtype.mk; cbv
def b53:=XR.1
def DP:=bD.mk 2 [.bl 4 7] (sub b53 0)
def am5:bO [17] Tryz.f53 DP:=bP
abbrev YC:=sub b53 54
abbrev YD:=sub b53 31
abbrev YE:=sub b53 87
def CY:=by
 have h:=cd b53 XR.1;simp only[XR,bZ,simprocAttr] at h;exact h
def XT:Ko [10,41] Tryz.f54:=by apply Subtype.mk; cbv
def b54:=XT.1
def Lc:=bD.mk 2 [.bl 4 8,.tmp 5] (sub b54 0)
def am6:bO [10,41] Tryz.f54 Lc:=bP
abbrev YF:=sub b54 9
abbrev YG:=sub b54 38
def Uh:=by
 have h:=cd b54 XT.1;simp only[XT,bZ,simprocAttr] at h;exact h
def XV:Ko [23,74] Tryz.f56:=by apply Subtype.mk; cbv
def b56:=XV.1
def GY:=bD.mk 2 [.bl 4 8] (sub b56 0)
def am8:bO [23,74] Tryz.f56 GY:=bP
abbrev YH:=sub b56 19
abbrev YI:=sub b56 65
abbrev YJ:=sub b56 50
def Iz:=by
 have h:=cd b56 XV.1;simp only[XV,bZ,simprocAttr] at h;exact h
def LK:Ko [] Tryz.f103:=by apply Subtype.mk; cbv
def aaQ:=LK.1
def E5:=bD.mk 2 [.tmp 4,.tmp 5,.tmp 6] (sub aaQ 0)
def aeM:bO [] Tryz.f103 E5:=bP
def aam:=by
 have h:=cd aaQ LK.1;simp only[LK,bZ,simprocAttr] at h;exact h
def LM:Ko [] Tryz.f105:=by apply Subtype.mk; cbv
def aaS:=LM.1
def Bb:=bD.mk 5 [.bl 10 10,.bl 11 7] (sub aaS 0)
def aeO:bO [] Tryz.f105 Bb:=bP
def Vk:=by
 have h:=cd aaS LM.1;simp only[LM,bZ,simprocAttr] at h;exact h
def LR:Ko [] Tryz.f110:=by apply Subtype.mk; cbv
def aaX:=LR.1
def E6:=bD.mk 1 [.tmp 2] (sub aaX 0)
def aeT:bO [] Tryz.f110 E6:=bP
def aaq:=by
 have h:=cd aaX LR.1;simp only[LR,bZ,simprocAttr] at h;exact h
def LW:Ko [35] Tryz.f114:=by apply Subtype.mk; cbv
def aaY:=LW.1
def wj:=bD.mk 2 [.bl 4 8,.tmp 5,.tmp 6] (sub aaY 0)
def aeX:bO [35] Tryz.f114 wj:=bP
def Il:=by
 have h:=cd aaY LW.1;simp only[LW,bZ,simprocAttr] at h;exact h
def LZ:Ko [7000011] Tryz.f117:=by apply Subtype.mk; cbv
def QX:=LZ.1
def x7:=bD.mk 3 [.tmp 6] (sub QX 0)
def ae0:bO [7000011] Tryz.f117 x7:=bP
abbrev zJ:=sub QX 15
abbrev RY:=sub QX 28
def Ah:=by
 have h:=cd QX LZ.1;simp only[LZ,bZ,simprocAttr] at h;exact h
def L1:Ko [47] Tryz.f119:=by apply Subtype.mk; cbv
def aa2:=L1.1
def Bc:=bD.mk 2 [.tmp 4,.tmp 5,.tmp 6] (sub aa2 0)
def ae2:bO [47] Tryz.f119 Bc:=bP
def Im:=by
 have h:=cd aa2 L1.1;simp only[L1,bZ,simprocAttr] at h;exact h
def L2:Ko [] Tryz.f120:=by apply Subtype.mk; cbv
def aa3:=L2.1
def JD:=bD.mk 3 [.tmp 6] (sub aa3 0)
def ae3:bO [] Tryz.f120 JD:=bP
def Vl:=by
 have h:=cd aa3 L2.1;simp only[L2,bZ,simprocAttr] at h;exact h
def MO:Ko [8,14] Tryz.f176:=by apply Subtype.mk; cbv
def IU:=MO.1
def Bk:=bD.mk 3 [.bl 6 10,.tmp 7] (sub IU 0)
def afT:bO [8,14] Tryz.f176 Bk:=bP
abbrev Sa:=sub IU 9
abbrev Sb:=sub IU 30
abbrev Sc:=sub IU 49
def xt:=by
 have h:=cd IU MO.1;simp only[MO,bZ,simprocAttr] at h;exact h
def M6:Ko [] Tryz.f191:=by apply Subtype.mk; cbv
def abJ:=M6.1
def Bn:=bD.mk 2 [.tmp 4] (sub abJ 0)
def af8:bO [] Tryz.f191 Bn:=bP
def Gi:=by
 have h:=cd abJ M6.1;simp only[M6,bZ,simprocAttr] at h;exact h
def M7:Ko [20,5000016] Tryz.f192:=by apply Subtype.mk; cbv
def IV:=M7.1
def Bo:=bD.mk 2 [.tmp 4,.tmp 5] (sub IV 0)
def af9:bO [20,5000016] Tryz.f192 Bo:=bP
abbrev Sh:=sub IV 36
abbrev Si:=sub IV 56
abbrev Sj:=sub IV 13
def td:=by
 have h:=cd IV M7.1;simp only[M7,bZ,simprocAttr] at h;exact h
def NP:Ko [] Tryz.f247:=by apply Subtype.mk; cbv
def ace:=NP.1
def KY:=bD.mk 2 [.tmp 4] (sub ace 0)
def agQ:bO [] Tryz.f247 KY:=bP
def VB:=by
 have h:=cd ace NP.1;simp only[NP,bZ,simprocAttr] at h;exact h
def NQ:Ko [] Tryz.f248:=by apply Subtype.mk; cbv
def Q3:=NQ.1
def Bs:=bD.mk 2 [.tmp 4] (sub Q3 0)
def agR:bO [] Tryz.f248 Bs:=bP
abbrev Sv:=sub Q3 41
abbrev Sw:=sub Q3 27
def vd:=by
 have h:=cd Q3 NQ.1;simp only[NQ,bZ,simprocAttr] at h;exact h
def NR:Ko [] Tryz.f249:=by apply Subtype.mk; cbv
def acf:=NR.1
def Bt:=bD.mk 2 [.tmp 4] (sub acf 0)
def agS:bO [] Tryz.f249 Bt:=bP
def VC:=by
 have h:=cd acf NR.1;simp only[NR,bZ,simprocAttr] at h;exact h
def NU:Ko [23] Tryz.f252:=by apply Subtype.mk; cbv
def acg:=NU.1
def Bv:=bD.mk 2 [.tmp 4] (sub acg 0)
def agV:bO [23] Tryz.f252 Bv:=bP
def QL:=by
 have h:=cd acg NU.1;simp only[NU,bZ,simprocAttr] at h;exact h
end Go.Proofs.YtahkjijkflobhaaGreatDoor
namespace Go.Abs
open Go Go.RowKit
theorem cf{α:Type}:∀(l:List α)(i:Nat),nth l i=l[i]?
 | [],_=>by rfl
 |_::_,0=>by rfl
 |_::l,n+1=>by simp[nth,cf l n]
theorem cG{α:Type}:∀(l:List α)(i:Nat)(x:α),dA l i x=l.set i x
 | [],_,_=>by rfl
 |_::_,0,_=>by rfl
 |_::l,n+1,x=>by simp[dA,cG l n]
def cH(j:J)(id:Nat)(ob:Option Nat):J:=⟨fun i=>if i=id then ob else j i,j.X⟩
structure Quiet(w w':World):Prop where
 size:w.heap.size<=w'.heap.size
 os:w'.os=w.os
 tape:w'.tape=w.tape
 output:w'.output=w.output
theorem lt_of_block{w:World}{b:Nat}{o:Obj}(h:w.heap[b]?=some o):b<w.heap.size:=by
 grind
theorem aq{α:Type}{l:List α}{i:Nat}{x:α}(h:l[i]?=some x):i<l.length:=by grind
section
variable {j:J} {M:aj} {w w':World}
theorem iA{j':J}{M':aj}(hr:Rel j M w)(ext:Ext j M w j' M' w'){i sz ver:Nat}{xs:List ae}(h:M[i]?=some (.arr sz ver xs))(hj:j' i=j i)(hb:∀b,j i=some b->w'.heap[b]?=w.heap[b]?) :
  (xs=[]/\j' i=none)\/∃b vs t,j' i=some b/\w'.heap[b]?=some (.cells vs t (0,0))/\xs.length*sz<=vs.size/\(∀x,x∈xs->x.cells.length=sz) /\
  ∀(q:Nat)(x:ae)(k:Nat)(c:ae),xs[q]?=some x->x.cells[k]?=some c->∃v,vs[q*sz+k]?=some v/\cg w' (fY j' M' w') c v:=by
 rcases hr.arr i _ _ _ h with he|⟨b,vs,t,h1,h2,h3,h4,h5⟩
 ·grind
 refine .inr ⟨b,vs,t,hj.trans h1,(hb b h1).trans h2,h3,h4,fun q x k c hx hk=>?_⟩
 obtain⟨u,h6,h7⟩:=h5 q x k c hx hk;exact⟨u,h6,h7.mono ext.cV⟩
theorem Rel.rI(hr:Rel j M w){i sz ver b:Nat}{xs:List ae}(h:M[i]?=some (.arr sz ver xs))(hj:j i=some b):∃b vs t,j i=some b/\w.heap[b]?=some (.cells vs t (0,0))/\xs.length*sz<=vs.size/\(∀x,x∈xs->x.cells.length=sz) /\
  ∀(q:Nat)(x:ae)(k:Nat)(c:ae),xs[q]?=some x->x.cells[k]?=some c->∃v,vs[q*sz+k]?=some v/\cg w (fY j M w) c v:=by
 rcases hr.arr i _ _ _ h with ⟨_,he⟩|hh
 ·grind
 omega
theorem rG{bx:aM}{i:Nat}(h:i<M.length):(M++[bx])[i]?=M[i]?:=by grind
def ft{bx:aM}:(M++[bx])[M.length]?=some bx:=by simp
theorem Ext.push{ob:Option Nat}{bx:aM}(hob:∀b,ob=some b->w.heap.size<=b)(q:Quiet w w')(hb:∀b,b<w.heap.size->w'.heap[b]?=w.heap[b]?) :
  Ext j M w (cH j M.length ob) (M++[bx]) w' where
 len:=by simp
 size:=q.size
 os:=q.os
 tape:=q.tape
 output:=q.output
 X:=rfl
 fix:=fun i bx h _=>by
  have hi:=aq h;exact⟨by simp[cH,Nat.ne_of_lt hi],bx,by rw[rG hi]; omega,rfl⟩
 tick:=fun i sz n h=>by
  have hi:=aq h;exact⟨n,Nat.le_refl _,by rw[rG hi]; omega,fun _=>⟨by simp[cH,Nat.ne_of_lt hi],fun b vs t _ hv=>⟨vs,(hb b (lt_of_block hv)).trans hv,rfl⟩⟩⟩
 arr:=fun i sz v xs h=>by
  have hi:=aq h;exact .inr ⟨v,xs,by rw[rG hi]; omega,Nat.le_refl _,fun _=>⟨by simp[cH,Nat.ne_of_lt hi],rfl,fun b vs t _ hv=>⟨vs,(hb b (lt_of_block hv)).trans hv,rfl⟩⟩⟩
 tags:=fun b0 vs0 t0 fr0 h=>⟨vs0,fr0,(hb b0 (lt_of_block h)).trans h,rfl⟩
 cV:=fun b off h=>by
  refine⟨⟨Nat.lt_of_lt_of_le h.1 q.size,fun id hid hj=>?_,h.3⟩,World.cell?_of_block (hb b h.1)⟩
  by_cases he:id=M.length
  ·have:ob=some b:=by grind [cH]
   have:=hob b this;have:=h.1;omega
  ·have hlt:id<M.length:=by grind
   rw[rG hlt];exact h.2 id hlt (by grind [cH])
 nA:=fun b hlt h=>by
  grind [ob,cH]
theorem Rel.ahr(hr:Rel j M w){ob:Option Nat}{bx:aM}(hob:∀b,ob=some b->w.heap.size<=b/\b<w'.heap.size)(q:Quiet w w')(hb:∀b,b<w.heap.size->w'.heap[b]?=w.heap[b]?)
  (hbox:bx.fixed=true->∃b,ob=some b/\(Ext j M w (cH j M.length ob) (M++[bx]) w'->Holds (cH j M.length ob) (M++[bx]) w' b bx))
  (htick:∀sz n b,bx = .tick sz n->ob=some b->∃vs t,w'.heap[b]?=some (.cells vs t (0,0)))
  (harr:∀sz ver xs,bx = .arr sz ver xs->(xs=[]/\ob=none)\/∃b vs t,ob=some b/\w'.heap[b]?=some (.cells vs t (0,0))/\xs.length*sz<=vs.size/\(∀x,x∈xs->x.cells.length=sz) /\
   ∀j' M',Ext j M w j' M' w'->∀(q:Nat)(x:ae)(k:Nat)(c:ae),xs[q]?=some x->x.cells[k]?=some c->∃v,vs[q*sz+k]?=some v/\cg w' (fY j' M' w') c v:=by intro _ _ _ h; cases h):Rel (cH j M.length ob) (M++[bx]) w':=by
 have ext:Ext j M w (cH j M.length ob) (M++[bx]) w':=Ext.push (fun b h=>(hob b h).1) q hb
 have up:∀i,i<M.length->cH j M.length ob i=j i:=fun i hi=>by simp[cH,Nat.ne_of_lt hi]
 have cas:∀i x,(M++[bx])[i]?=some x->(i<M.length/\M[i]?=some x)\/(i=M.length/\x=bx):=by
  grind
 refine⟨fun i i' b hi hi' h h'=>?_,fun i b hi h=>?_,fun i bx' h hf=>?_,fun i sz n b h hj=>?_,fun i sz ver xs h=>?_,fun i b hi h off hx=>?_,fun b off h=>Nat.lt_of_lt_of_le (hr.tb b off h) q.size⟩
 ·simp only[List.length_append,List.length_cons,List.length_nil] at hi hi'
  by_cases e:i=M.length<;>by_cases e':i'=M.length
  ·omega
  ·have h1:ob=some b:=by simpa[cH,e] using h
   rw[up i' (by omega)] at h'
   have:=hr.lt i' b (by omega) h'
   have:=(hob b h1).1;omega
  ·have h1:ob=some b:=by simpa[cH,e'] using h'
   rw[up i (by omega)] at h
   have:=hr.lt i b (by omega) h
   have:=(hob b h1).1;omega
  ·rw[up i (by omega)] at h
   rw[up i' (by omega)] at h'
   exact hr.inj i i' b (by omega) (by omega) h h'
 ·simp only[List.length_append,List.length_cons,List.length_nil] at hi
  by_cases e:i=M.length
  ·exact(hob b (by simpa[cH,e] using h)).2
  ·rw[up i (by omega)] at h
   exact Nat.lt_of_lt_of_le (hr.lt i b (by omega) h) q.size
 ·rcases cas i _ h with ⟨hi,h⟩|⟨rfl,hx⟩
  ·obtain⟨b,h1,h2⟩:=hr.fix i bx' h hf;exact⟨b,by rw[up i hi]; exact h1,h2.mono ext (hb b (hr.lt i b hi h1))⟩
  ·subst hx;obtain⟨b,h1,h2⟩:=hbox hf;exact⟨b,by simp[cH,h1],h2 ext⟩
 ·rcases cas i _ h with ⟨hi,h⟩|⟨rfl,hx⟩
  ·rw[up i hi] at hj;obtain⟨vs,t,h1⟩:=hr.tick i sz n b h hj;exact⟨vs,t,(hb b (lt_of_block h1)).trans h1⟩
  ·exact htick sz n b hx.symm (by simpa[cH] using hj)
 ·rcases cas i _ h with ⟨hi,h⟩|⟨rfl,hx⟩
  ·exact iA hr ext h (up i hi) fun b h1=>hb b (hr.lt i b hi h1)
  grind [cH]
 ·by_cases e:i=M.length
  ·have h1:=(hob b (by simpa[cH,e] using h)).1
   have h2:=hr.tb b off hx;omega
  ·exact hr.mN i b (by simp at hi; omega) (by rw[up i (by simp at hi; omega)] at h; exact h) off hx
def Rel.push(hr:Rel j M w){ob:Option Nat}{bx:aM}(hob:∀b,ob=some b->w.heap.size<=b/\b<w'.heap.size)(q:Quiet w w')(hb:∀b,b<w.heap.size->w'.heap[b]?=w.heap[b]?)
  (hbox:bx.fixed=true->∃b,ob=some b/\∀j' M',Ext j M w j' M' w'->Holds j' M' w' b bx)
  (htick:∀sz n b,bx = .tick sz n->ob=some b->∃vs t,w'.heap[b]?=some (.cells vs t (0,0)))
  (harr:∀sz ver xs,bx = .arr sz ver xs->(xs=[]/\ob=none)\/∃b vs t,ob=some b/\w'.heap[b]?=some (.cells vs t (0,0))/\xs.length*sz<=vs.size/\(∀x,x∈xs->x.cells.length=sz) /\
   ∀j' M',Ext j M w j' M' w'->∀(q:Nat)(x:ae)(k:Nat)(c:ae),xs[q]?=some x->x.cells[k]?=some c->∃v,vs[q*sz+k]?=some v/\cg w' (fY j' M' w') c v:=by intro _ _ _ h; cases h):Rel (cH j M.length ob) (M++[bx]) w' :=
 hr.ahr hob q hb (fun hf=>(hbox hf).imp fun b h=>⟨h.1,fun hx=>h.2 _ _ hx⟩) htick harr
theorem br{id:Nat}{bx:aM}(h:id<M.length):(M.set id bx)[id]?=some bx:=by grind
theorem aU{id i:Nat}{bx:aM}(h:id≠i):(M.set id bx)[i]?=M[i]?:=by grind
theorem Ext.store{id b:Nat}{bx bx':aM}(hM:M[id]?=some bx)(hfx:bx.fixed=true)(htag:bx'.tag=bx.tag)(hj:j id=some b)(hr:Rel j M w)(q:Quiet w w')
  (hb:∀b',b'≠b->b'<w.heap.size->w'.heap[b']?=w.heap[b']?) (htg:∀(vs:Array Value)(t:TypeId)(fr:Nat×Nat),w.heap[b]?=some (.cells vs t fr)->∃vs' fr',w'.heap[b]?=some (.cells vs' t fr')/\vs'.size=vs.size):Ext j M w j (M.set id bx') w' where
 len:=by simp
 size:=q.size
 os:=q.os
 tape:=q.tape
 output:=q.output
 X:=rfl
 fix:=fun i b0 h _=>⟨rfl,by
  grind⟩
 tick:=fun i sz n h=>by
  have e:id≠i:=by rintro rfl; rw[hM] at h; cases h; cases hfx
  refine⟨n,Nat.le_refl _,by rw[aU e]; omega,fun _=>⟨rfl,fun b' vs t hb' hv=>⟨vs,?_,rfl⟩⟩⟩
  refine(hb b' ?_ (lt_of_block hv)).trans hv;rintro rfl;exact e (hr.inj _ _ _ (aq hM) (aq h) hj hb')
 arr:=fun i sz v xs h=>by
  have e:id≠i:=by rintro rfl; rw[hM] at h; cases h; cases hfx
  refine .inr ⟨v,xs,by rw[aU e]; omega,Nat.le_refl _,fun _=>⟨rfl,rfl,fun b' vs t hb' hv=>⟨vs,?_,rfl⟩⟩⟩
  refine(hb b' ?_ (lt_of_block hv)).trans hv;rintro rfl;exact e (hr.inj _ _ _ (aq hM) (aq h) hj hb')
 tags:=fun b0 vs0 t0 fr0 h=>by
  grind
 cV:=fun b0 off h=>by
  have hne:b0≠b:=by
   rintro rfl;obtain⟨sz,n,h1,_⟩:=h.2 id (aq hM) hj;rw[hM] at h1; cases h1; cases hfx
  refine⟨⟨Nat.lt_of_lt_of_le h.1 q.size,fun i hi hji=>?_,h.3⟩,World.cell?_of_block (w:=w) (hb b0 hne h.1)⟩
  have e:id≠i:=by grind
  rw[aU e];exact h.2 i (by simpa using hi) hji
 nA:=fun b0 hlt h=>by
  grind
theorem Rel.store{id b:Nat}{bx bx':aM}(hM:M[id]?=some bx)(hfx:bx.fixed=true)(htag:bx'.tag=bx.tag)(hj:j id=some b)(hr:Rel j M w)(q:Quiet w w')
  (hb:∀b',b'≠b->b'<w.heap.size->w'.heap[b']?=w.heap[b']?) (htg:∀(vs:Array Value)(t:TypeId)(fr:Nat×Nat),w.heap[b]?=some (.cells vs t fr)->∃vs' fr',w'.heap[b]?=some (.cells vs' t fr')/\vs'.size=vs.size) (hh:∀j' M',Ext j M w j' M' w'->Holds j' M' w' b bx'):Rel j (M.set id bx') w':=by
 have ext  := Ext.store hM hfx htag hj hr q hb htg;refine⟨fun i i' b0 hi hi'=>hr.inj i i' b0 (by simpa using hi) (by simpa using hi'),fun i b0 hi h=>Nat.lt_of_lt_of_le (hr.lt i b0 (by simpa using hi) h) q.size,fun i bx0 h hf=>?_,fun i sz n b0 h hji=>?_,fun i sz ver xs h=>?_,fun i b0 hi h=>hr.mN i b0 (by simpa using hi) h,fun b0 off h=>Nat.lt_of_lt_of_le (hr.tb b0 off h) q.size⟩
 ·by_cases e:id=i
  ·grind
  ·rw[aU e] at h;obtain⟨b0,h1,h2⟩:=hr.fix i _ h hf;refine⟨b0,h1,h2.mono ext (hb b0 ?_ (hr.lt i b0 (aq h) h1))⟩;rintro rfl;exact e (hr.inj _ _ _ (aq hM) (aq h) hj h1)
 ·have e:id≠i:=by
   rintro rfl;rw[br (aq hM)] at h;injection h with h
   have:=uq htag hfx;rw[h] at this; cases this
  rw[aU e] at h;obtain⟨vs,t0,h1⟩:=hr.tick i sz n b0 h hji;refine⟨vs,t0,(hb b0 ?_ (lt_of_block h1)).trans h1⟩;rintro rfl;exact e (hr.inj _ _ _ (aq hM) (aq h) hj hji)
 ·have e:id≠i:=by
   rintro rfl;rw[br (aq hM)] at h;injection h with h
   have:=uq htag hfx;rw[h] at this; cases this
  rw[aU e] at h;refine iA hr ext h rfl fun b0 h1=>hb b0 ?_ (hr.lt i b0 (aq h) h1)
  rintro rfl;exact e (hr.inj _ _ _ (aq hM) (aq h) hj h1)
theorem Ext.Ad{k b sz n n':Nat}{vs vs':Array Value}{t:TypeId}(hM:M[k]?=some (.tick sz n))(hj:j k=some b)(hr:Rel j M w)(q:Quiet w w')
  (hb:∀b',b'≠b->b'<w.heap.size->w'.heap[b']?=w.heap[b']?) (hw:w.heap[b]?=some (.cells vs t (0,0))) (hw':w'.heap[b]?=some (.cells vs' t (0,0))) (hvs:vs'.size=vs.size)
  (hq:∀p,p<n*sz->vs'[p]?=vs[p]?) (hn:n<=n'):Ext j M w j (M.set k (.tick sz n')) w' where
 len:=by simp
 size:=q.size
 os:=q.os
 tape:=q.tape
 output:=q.output
 X:=rfl
 fix:=fun i b0 h hf=>⟨rfl,by
  have e:k≠i:=by rintro rfl; rw[hM] at h; cases h; cases hf
  grind⟩
 tick:=fun i sz0 n0 h=>by
  grind
 arr:=fun i sz v xs h=>by
  grind
 tags:=fun b0 vs0 t0 fr0 h=>by
  grind
 cV:=fun b0 off h=>by
  refine⟨⟨Nat.lt_of_lt_of_le h.1 q.size,fun i hi hji=>?_,h.3⟩,?_⟩
  ·by_cases e:k=i
   ·subst e;obtain⟨sz0,n0,h1,h2⟩:=h.2 k (aq hM) hji;rw[hM] at h1;injection h1 with h1; injection h1 with e1 e2
    subst e1; subst e2;exact⟨sz,n',br (aq hM),Nat.lt_of_lt_of_le h2 (Nat.mul_le_mul_right _ hn)⟩
   ·rw[aU e];exact h.2 i (by simpa using hi) hji
  ·by_cases e:b0=b
   ·subst e;obtain⟨sz0,n0,h1,h2⟩:=h.2 k (aq hM) hj;rw[hM] at h1
    grind [World.cell?]
   ·exact World.cell?_of_block (w:=w) (hb b0 e h.1)
 nA:=fun b0 hlt h=>by
  grind
theorem Rel.Ad{k b sz n n':Nat}{vs vs':Array Value}{t:TypeId}(hM:M[k]?=some (.tick sz n))(hj:j k=some b)(hr:Rel j M w)(q:Quiet w w')
  (hb:∀b',b'≠b->b'<w.heap.size->w'.heap[b']?=w.heap[b']?) (hw:w.heap[b]?=some (.cells vs t (0,0))) (hw':w'.heap[b]?=some (.cells vs' t (0,0))) (hvs:vs'.size=vs.size)
  (hq:∀p,p<n*sz->vs'[p]?=vs[p]?) (hn:n<=n'):Rel j (M.set k (.tick sz n')) w':=by
 have ext:Ext j M w j (M.set k (.tick sz n')) w':=Ext.Ad hM hj hr q hb hw hw' hvs hq hn;refine⟨fun i i' b0 hi hi'=>hr.inj i i' b0 (by grind) (by grind),fun i b0 hi h=>Nat.lt_of_lt_of_le (hr.lt i b0 (by grind) h) q.size,fun i bx0 h hf=>?_,fun i sz0 n0 b0 h hji=>?_,fun i sz ver xs h=>?_,fun i b0 hi h=>hr.mN i b0 (by grind) h,fun b0 off h=>Nat.lt_of_lt_of_le (hr.tb b0 off h) q.size⟩
 ·have e:k≠i:=by rintro rfl; rw[br (aq hM)] at h; cases h; cases hf
  rw[aU e] at h;obtain⟨b0,h1,h2⟩:=hr.fix i bx0 h hf;refine⟨b0,h1,h2.mono ext (hb b0 ?_ (hr.lt i b0 (aq h) h1))⟩;rintro rfl;exact e (hr.inj _ _ _ (aq hM) (aq h) hj h1)
 ·by_cases e:k=i
  ·grind
  ·rw[aU e] at h;obtain⟨vs0,t0,h1⟩:=hr.tick i sz0 n0 b0 h hji
   grind
 ·have e:k≠i:=by grind
  rw[aU e] at h;refine iA hr ext h rfl fun b0 h1=>hb b0 ?_ (hr.lt i b0 (aq h) h1)
  rintro rfl;exact e (hr.inj _ _ _ (aq hM) (aq h) hj h1)
theorem Ext.vA{k b' sz n n':Nat}(hM:M[k]?=some (.tick sz n))(q:Quiet w w')(hb:∀b,b<w.heap.size->w'.heap[b]?=w.heap[b]?)(hf:w.heap.size<=b')(hn:n<n') :
  Ext j M w (cH j k (some b')) (M.set k (.tick sz n')) w' where
 len:=by simp
 size:=q.size
 os:=q.os
 tape:=q.tape
 output:=q.output
 X:=rfl
 fix:=fun i b0 h hf=>by
  have e:k≠i:=by rintro rfl; rw[hM] at h; cases h; cases hf
  exact⟨by simp[cH,Ne.symm e],b0,by rw[aU e]; omega,rfl⟩
 tick:=fun i sz0 n0 h=>by
  by_cases e:k=i
  ·grind
  ·exact⟨n0,Nat.le_refl _,by rw[aU e]; omega,fun _=>⟨by simp[cH,Ne.symm e],fun b vs0 t0 _ hv=>⟨vs0,(hb b (lt_of_block hv)).trans hv,rfl⟩⟩⟩
 arr:=fun i sz v xs h=>by
  have e:k≠i:=by grind
  exact .inr ⟨v,xs,by rw[aU e]; omega,Nat.le_refl _,fun _=>⟨by simp[cH,Ne.symm e],rfl,fun b vs0 t0 _ hv=>⟨vs0,(hb b (lt_of_block hv)).trans hv,rfl⟩⟩⟩
 tags:=fun b0 vs0 t0 fr0 h=>⟨vs0,fr0,(hb b0 (lt_of_block h)).trans h,rfl⟩
 cV:=fun b0 off h=>by
  refine⟨⟨Nat.lt_of_lt_of_le h.1 q.size,fun i hi hji=>?_,h.3⟩,World.cell?_of_block (w:=w) (hb b0 h.1)⟩
  have e:k≠i:=by
   rintro rfl;have:b'=b0:=by grind [cH]
   have:=h.1;omega
  rw[aU e];exact h.2 i (by grind) (by simp_all [cH,Ne.symm])
 nA:=fun b0 hlt h=>by
  grind [cH]
def Rel.vA{k b' sz n n':Nat}{vs:Array Value}{t:TypeId}(hM:M[k]?=some (.tick sz n))(hr:Rel j M w)(q:Quiet w w')(hb:∀b,b<w.heap.size->w'.heap[b]?=w.heap[b]?)
  (hf:w.heap.size<=b') (hw':w'.heap[b']?=some (.cells vs t (0,0))) (hn:n<n'):Rel (cH j k (some b')) (M.set k (.tick sz n')) w':=by
 have ext:Ext j M w (cH j k (some b')) (M.set k (.tick sz n')) w':=Ext.vA hM q hb hf hn;refine⟨fun i i' b0 hi hi' h h'=>?_,fun i b0 hi h=>?_,fun i bx0 h hf=>?_,fun i sz0 n0 b0 h hji=>?_,fun i sz ver xs h=>?_,fun i b0 hi h off hx=>?_,fun b0 off h=>Nat.lt_of_lt_of_le (hr.tb b0 off h) q.size⟩
 ·simp only[List.length_set] at hi hi'
  by_cases e:i=k<;>by_cases e':i'=k
  ·omega
  ·have h1:b'=b0:=by simpa[cH,e] using h
   have:=hr.lt i' b0 hi' (by simpa[cH,e'] using h')
   omega
  ·have h1:b'=b0:=by simpa[cH,e'] using h'
   have:=hr.lt i b0 hi (by simpa[cH,e] using h)
   omega
  ·exact hr.inj i i' b0 hi hi' (by simpa[cH,e] using h) (by simpa[cH,e'] using h')
 ·simp only[List.length_set] at hi
  by_cases e:i=k
  ·have h1:b'=b0:=by simpa[cH,e] using h
   subst h1;exact lt_of_block hw'
  ·exact Nat.lt_of_lt_of_le (hr.lt i b0 hi (by simpa[cH,e] using h)) q.size
 ·have e:k≠i:=by rintro rfl; rw[br (aq hM)] at h; cases h; cases hf
  rw[aU e] at h;obtain⟨b0,h1,h2⟩:=hr.fix i bx0 h hf;exact⟨b0,by simpa[cH,Ne.symm e] using h1,h2.mono ext (hb b0 (hr.lt i b0 (aq h) h1))⟩
 ·by_cases e:i=k
  ·have h1:b'=b0:=by simpa[cH,e] using hji
   subst h1;exact⟨vs,t,hw'⟩
  ·rw[aU (Ne.symm e)] at h;obtain⟨vs0,t0,h1⟩:=hr.tick i sz0 n0 b0 h (by simpa[cH,e] using hji)
   exact⟨vs0,t0,(hb b0 (lt_of_block h1)).trans h1⟩
 ·have e:k≠i:=by rintro rfl; rw[br (aq hM)] at h; cases h
  rw[aU e] at h;exact iA hr ext h (by simp[cH,Ne.symm e]) fun b0 h1=>hb b0 (hr.lt i b0 (aq h) h1)
 ·by_cases e:i=k
  ·have h1:b'=b0:=by simpa[cH,e] using h
   have h2:=hr.tb b0 off hx;omega
  ·exact hr.mN i b0 (by simpa using hi) (by simpa[cH,e] using h) off hx
end
section
variable {j:J} {M:aj} {w w':World}
def xJ(j:J)(M:aj)(w:World)(b sz:Nat)(xs:List ae):Prop:=∃vs t,w.heap[b]?=some (.cells vs t (0,0))/\xs.length*sz<=vs.size/\(∀x,x∈xs->x.cells.length=sz) /\
  ∀(q:Nat)(x:ae)(k:Nat)(c:ae),xs[q]?=some x->x.cells[k]?=some c->∃v,vs[q*sz+k]?=some v/\cg w (fY j M w) c v
def Ext.xN{id b sz ver ver':Nat}{xs xs':List ae}(hM:M[id]?=some (.arr sz ver xs))(hj:j id=some b)(hr:Rel j M w)(q:Quiet w w')
  (hb:∀b',b'≠b->b'<w.heap.size->w'.heap[b']?=w.heap[b']?) (hw:∀vs t,w.heap[b]?=some (.cells vs t (0,0))->∃vs',w'.heap[b]?=some (.cells vs' t (0,0))/\vs'.size=vs.size)
  (hv:ver<=ver') (hl:ver'=ver->xs'.length=xs.length):Ext j M w j (M.set id (.arr sz ver' xs')) w' where
 len:=by simp
 size:=q.size
 os:=q.os
 tape:=q.tape
 output:=q.output
 X:=rfl
 fix:=fun i b0 h hf=>⟨rfl,by
  have e:id≠i:=by rintro rfl; rw[hM] at h; cases h; cases hf
  exact⟨b0,by rw[aU e]; exact h,rfl⟩⟩
 tick:=fun i sz0 n0 h=>by
  have e:id≠i:=by rintro rfl; rw[hM] at h; cases h
  refine⟨n0,Nat.le_refl _,by rw[aU e]; exact h,fun _=>⟨rfl,fun b' vs0 t0 hb' hv=>⟨vs0,?_,rfl⟩⟩⟩
  refine(hb b' ?_ (lt_of_block hv)).trans hv;rintro rfl;exact e (hr.inj _ _ _ (aq hM) (aq h) hj hb')
 arr:=fun i sz0 v0 xs0 h=>by
  by_cases e:id=i
  ·subst e;rw[hM] at h;injection h with h; injection h with e1 e2 e3
   subst e1; subst e2; subst e3;refine .inr ⟨ver',xs',br (aq hM),hv,fun he=>⟨rfl,hl he,fun b' vs t hb' hv=>?_⟩⟩
   rw[hj] at hb'; cases hb';exact hw vs t hv
  ·refine .inr ⟨v0,xs0,by rw[aU e]; exact h,Nat.le_refl _,fun _=>⟨rfl,rfl,fun b' vs t hb' hv=>⟨vs,?_,rfl⟩⟩⟩
   refine(hb b' ?_ (lt_of_block hv)).trans hv;rintro rfl;exact e (hr.inj _ _ _ (aq hM) (aq h) hj hb')
 tags:=fun b0 vs0 t0 fr0 h=>by
  by_cases e:b0=b
  ·subst e;obtain⟨b',vs,t,g1,g2,_⟩:=hr.rI hM hj;rw[hj] at g1; cases g1;rw[g2] at h; injection h with h; injection h with h1 h2 h3
   subst h1; subst h2;obtain⟨vs',k1,k2⟩:=hw vs t g2;exact⟨_,_,k1,k2⟩
  ·exact⟨vs0,fr0,(hb b0 e (lt_of_block h)).trans h,rfl⟩
 cV:=fun b0 off h=>by
  have hne:b0≠b:=by
   rintro rfl;obtain⟨sz,n,h1,_⟩:=h.2 id (aq hM) hj;rw[hM] at h1; cases h1
  refine⟨⟨Nat.lt_of_lt_of_le h.1 q.size,fun i hi hji=>?_,h.3⟩,World.cell?_of_block (w:=w) (hb b0 hne h.1)⟩
  have e:id≠i:=by rintro rfl; rw[hj] at hji; injection hji with hji; exact hne hji.symm
  rw[aU e];exact h.2 i (by simpa using hi) hji
 nA:=fun b0 hlt h=>by
  have hne:b0≠b:=by rintro rfl; exact h id (aq hM) hj
  exact⟨hb b0 hne hlt,fun i hi=>h i (by simpa using hi)⟩
def Rel.xN{id b sz ver ver':Nat}{xs xs':List ae}(hM:M[id]?=some (.arr sz ver xs))(hj:j id=some b)(hr:Rel j M w)(q:Quiet w w')
  (hb:∀b',b'≠b->b'<w.heap.size->w'.heap[b']?=w.heap[b']?) (hw:∀vs t,w.heap[b]?=some (.cells vs t (0,0))->∃vs',w'.heap[b]?=some (.cells vs' t (0,0))/\vs'.size=vs.size)
  (hv:ver<=ver') (hl:ver'=ver->xs'.length=xs.length) (hh:∀j' M',Ext j M w j' M' w'->xJ j' M' w' b sz xs'):Rel j (M.set id (.arr sz ver' xs')) w':=by
 have ext:Ext j M w j (M.set id (.arr sz ver' xs')) w':=Ext.xN hM hj hr q hb hw hv hl;refine⟨fun i i' b0 hi hi'=>hr.inj i i' b0 (by simpa using hi) (by simpa using hi'),fun i b0 hi h=>Nat.lt_of_lt_of_le (hr.lt i b0 (by simpa using hi) h) q.size,fun i bx0 h hf=>?_,fun i sz0 n0 b0 h hji=>?_,fun i sz0 v0 xs0 h=>?_,fun i b0 hi h=>hr.mN i b0 (by simpa using hi) h,fun b0 off h=>Nat.lt_of_lt_of_le (hr.tb b0 off h) q.size⟩
 ·have e:id≠i:=by rintro rfl; rw[br (aq hM)] at h; cases h; cases hf
  rw[aU e] at h;obtain⟨b0,h1,h2⟩:=hr.fix i bx0 h hf;refine⟨b0,h1,h2.mono ext (hb b0 ?_ (hr.lt i b0 (aq h) h1))⟩;rintro rfl;exact e (hr.inj _ _ _ (aq hM) (aq h) hj h1)
 ·have e:id≠i:=by rintro rfl; rw[br (aq hM)] at h; cases h
  rw[aU e] at h;obtain⟨vs,t0,h1⟩:=hr.tick i sz0 n0 b0 h hji;refine⟨vs,t0,(hb b0 ?_ (lt_of_block h1)).trans h1⟩;rintro rfl;exact e (hr.inj _ _ _ (aq hM) (aq h) hj hji)
 ·by_cases e:id=i
  ·subst e;rw[br (aq hM)] at h;injection h with h; injection h with e1 e2 e3
   subst e1; subst e2; subst e3;obtain⟨vs,t,g⟩:=hh _ _ ext;exact .inr ⟨b,vs,t,hj,g⟩
  ·rw[aU e] at h;refine iA hr ext h rfl fun b0 h1=>hb b0 ?_ (hr.lt i b0 (aq h) h1)
   rintro rfl;exact e (hr.inj _ _ _ (aq hM) (aq h) hj h1)
def Ext.freeze{id sz ver:Nat}{xs:List ae}(hM:M[id]?=some (.arr sz ver xs)):Ext j M w j (M.set id (.tick sz xs.length)) w where
 len:=by simp
 size:=Nat.le_refl _
 os:=rfl
 tape:=rfl
 output:=rfl
 X:=rfl
 fix:=fun i b0 h hf=>⟨rfl,by
  have e:id≠i:=by rintro rfl; rw[hM] at h; cases h; cases hf
  exact⟨b0,by rw[aU e]; exact h,rfl⟩⟩
 tick:=fun i sz0 n0 h=>by
  have e:id≠i:=by rintro rfl; rw[hM] at h; cases h
  exact⟨n0,Nat.le_refl _,by rw[aU e]; exact h,fun _=>⟨rfl,fun b' vs0 t0 hb' hv=>⟨vs0,hv,rfl⟩⟩⟩
 arr:=fun i sz0 v0 xs0 h=>by
  by_cases e:id=i
  ·subst e;rw[hM] at h;injection h with h; injection h with e1 e2 e3
   subst e1; subst e2; subst e3;exact .inl ⟨_,br (aq hM)⟩
  ·exact .inr ⟨v0,xs0,by rw[aU e]; exact h,Nat.le_refl _,fun _=>⟨rfl,rfl,fun b' vs t hb' hv=>⟨vs,hv,rfl⟩⟩⟩
 tags:=fun b vs t fr h=>⟨vs,fr,h,rfl⟩
 cV:=fun b0 off h=>by
  refine⟨⟨h.1,fun i hi hji=>?_,h.3⟩,rfl⟩
  have e:id≠i:=by
   rintro rfl;obtain⟨sz,n,h1,_⟩:=h.2 id (aq hM) hji;rw[hM] at h1; cases h1
  rw[aU e];exact h.2 i (by simpa using hi) hji
 nA:=fun b0 hlt h=>⟨rfl,fun i hi=>h i (by simpa using hi)⟩
def Rel.freeze{id sz ver:Nat}{xs:List ae}(hM:M[id]?=some (.arr sz ver xs))(hr:Rel j M w):Rel j (M.set id (.tick sz xs.length)) w:=by
 have ext:Ext j M w j (M.set id (.tick sz xs.length)) w:=Ext.freeze hM;refine⟨fun i i' b0 hi hi'=>hr.inj i i' b0 (by simpa using hi) (by simpa using hi'),fun i b0 hi h=>hr.lt i b0 (by simpa using hi) h,fun i bx0 h hf=>?_,fun i sz0 n0 b0 h hji=>?_,fun i sz0 v0 xs0 h=>?_,fun i b0 hi h=>hr.mN i b0 (by simpa using hi) h,hr.tb⟩
 ·have e:id≠i:=by rintro rfl; rw[br (aq hM)] at h; cases h; cases hf
  rw[aU e] at h;obtain⟨b0,h1,h2⟩:=hr.fix i bx0 h hf;exact⟨b0,h1,h2.mono ext rfl⟩
 ·by_cases e:id=i
  ·subst e;obtain⟨b,vs,t,g1,g2,_⟩:=hr.rI hM hji;rw[hji] at g1; cases g1;exact⟨vs,t,g2⟩
  ·rw[aU e] at h;exact hr.tick i sz0 n0 b0 h hji
 ·have e:id≠i:=by rintro rfl; rw[br (aq hM)] at h; cases h
  rw[aU e] at h;exact iA hr ext h rfl fun b0 h1=>rfl
end
def pw{w:World}{cV saf':Nat->Nat->Prop}{b lo hi sz cap:Nat}{vs:Array Value}{t:TypeId}{xs:List ae}(hw:w.heap[b]?=some (.cells vs t (0,0)))(hwid:∀x,x∈xs->x.cells.length=sz)
  (hc:∀(q:Nat)(x:ae)(k:Nat)(c:ae),xs[q]?=some x->x.cells[k]?=some c->∃v,vs[q*sz+k]?=some v/\cg w cV c v) (hm:∀b off,cV b off->saf' b off) (hs:∀off,off<xs.length*sz->saf' b off)
  (h1:lo<=hi) (h2:hi<=xs.length) (h3:hi-lo<=cap):cg w saf' (.slice .sh ((xs.take hi).drop lo)) (.slice (some ⟨b,lo*sz,none⟩) (hi-lo) cap):=by
 have hget:∀(i:Nat)(x:ae),((xs.take hi).drop lo)[i]?=some x->xs[lo+i]?=some x/\lo+i<hi:=by
  intro i x h;rw[List.getElem?_drop] at h;have hlt:lo+i<hi:=by have:=aq h; simp at this; omega
  rw[List.getElem?_take_of_lt hlt] at h;exact⟨h,hlt⟩
 have idx:∀i k,lo*sz+(i*sz+k)=(lo+i)*sz+k:=fun i k=>by rw[Nat.add_mul]; omega
 refine .slice _ _ _ _ b (lo*sz) sz (fun p=>(vs[lo*sz+p]?).getD undef) (by simp; omega) (by omega) (fun _=>rfl) (fun x hx=>hwid x (List.mem_of_mem_take (List.mem_of_mem_drop hx))) (fun i x k c hx hk=>?_) fun i x k c hx hk=>?_
 ·obtain⟨g1,g2⟩:=hget i x hx;obtain⟨v,g3,g4⟩:=hc _ x k c g1 hk;have hk':k<sz:=by rw[<-hwid x (List.mem_of_getElem? g1)]; exact aq hk
  rw[idx];refine⟨by simp[World.cell?,hw,g3],hs _ ?_⟩
  calc (lo+i)*sz+k<(lo+i)*sz+sz:=by omega
   _=(lo+i+1)*sz:=by rw[Nat.add_mul (lo+i) 1]; omega
   _<=xs.length*sz:=Nat.mul_le_mul_right _ (by omega)
 ·obtain⟨g1,g2⟩:=hget i x hx;obtain⟨v,g3,g4⟩:=hc _ x k c g1 hk;simp only[idx,g3,Option.getD_some];exact g4.mono fun b off h=>⟨hm b off h,rfl⟩
section
variable [ew]
def dn(j:J)(M:aj)(w:World)(x:ae×aj)(v:Value)(w':World):Prop:=∃j',Rel j' x.2 w'/\Ext j M w j' x.2 w'/\cC j' x.2 w' x.1 v
def Aq(j:J)(M:aj)(w:World)(x:ae×aj)(u:Value)(w':World):Prop:=x.1 = .fQ u/\∃j',Rel j' x.2 w'/\Ext j M w j' x.2 w'
def nB(j:J)(M:aj)(w:World)(x:ae×aj)(e:Ending)(w':World):Prop :=
 (∃v,e = .returned v/\dn j M w x v w')\/∃u,e = .panicked [{ v:=u,recovered:=false }]/\Aq j M w x u w'
def nB.ret{j:J}{M:aj}{w:World}{x:ae×aj}{e:Ending}{w':World}(h:nB j M w x e w')(hx:x.1.dJ=false):∃v,e = .returned v/\dn j M w x v w':=by
 rcases h with h|⟨u,_,h,_⟩
 ·omega
 ·rw[h] at hx; cases hx
def bn(P:Program)(f:Nat)(args:List ae)(M:aj)(x:ae×aj):Prop :=
 ∀(j:J)(w:World)(vs:Array Value),Rel j M w->ke j M w->args.length=vs.size->(∀(i:Nat)(c:ae)(v:Value),args[i]?=some c->vs[i]?=some v->cC j M w c v) ->
  Calls P f vs w fun e w'=>nB j M w x e w'
def fS(P:Program)(f:Nat)(args:List ae)(M:aj)(x:ae×aj):Prop :=
 ∀(j:J)(w:World)(vs:Array Value),Rel j M w->ke j M w->args.length=vs.size->(∀(i:Nat)(c:ae)(v:Value),args[i]?=some c->vs[i]?=some v->cC j M w c v) ->
  Calls P f vs w fun e w'=>∃v j',e = .returned v/\Rel j' x.2 w'/\Ext j M w j' x.2 w'/\cC j' x.2 w' x.1 v
def fS.call{P:Program}{f:Nat}{args:List ae}{M:aj}{x:ae×aj}(h:fS P f args M x):bn P f args M x:=fun j w vs h1 h2 h3 h4 =>
 (h j w _ h1 h2 h3 h4).mono fun e w' ⟨v,j',he,g1,g2,g3⟩ => .inl ⟨v,he,j',g1,g2,g3⟩
def im(P:Program)(C:bL):Prop:=∀f a M x,C f a M=some x->fz P f=true/\bn P f a M x
section
variable {j:J} {M:aj} {w:World} {P:Program}
def dn.still{v:Value}{y:ae}(hr:Rel j M w)(h:cC j M w y v):dn j M w (y,M) v w:=⟨j,hr,Ext.refl j M w,h⟩
theorem Ax{v:Value}{x:ae}(h:C3 v=some x):cC j M w x v:=by
 unfold C3 at h
 split at h<;>first
  |(cases h; first|exact .plain (.bool _)|exact .plain (.int _ _)|exact .plain (.str _)|exact .plain (.raw _ rfl)|exact .c0 _)
  |grind
theorem Av{cV:Nat->Nat->Prop}:∀ {vs:List Value} {l:List ae},II vs=some l->l.length=vs.length/\∀(i:Nat)(c:ae)(v:Value),l[i]?=some c->vs[i]?=some v->cg w cV c v
 | [],l,h=>by
  grind [II]
 |v::r,l,h=>by
  simp[II] at h;rw[Option.bind_eq_some_iff] at h;obtain⟨x,hx,h⟩:=h;rw[Option.bind_eq_some_iff] at h;obtain⟨l',hl,h⟩:=h;cases h;obtain⟨h1,h2⟩:=Av hl;refine⟨by grind,fun i c u hc hu=>?_⟩
  cases i with
  |zero =>
   simp at hc hu; subst hc; subst hu;unfold Um at hx
   split at hx<;>first
    |(cases hx; first|exact .bool _|exact .int _ _|exact .str _|exact .raw _ rfl)
    |grind
  |succ i=>exact h2 i c u (by grind) (by grind)
theorem iz:∀ {vs:List Value} {l:List ae},kv vs=some l->l.length=vs.length/\∀(i:Nat)(c:ae)(v:Value),l[i]?=some c->vs[i]?=some v->cC j M w c v
 | [],l,h=>by
  grind [kv]
 |v::r,l,h=>by
  simp[kv] at h;rw[Option.bind_eq_some_iff] at h;obtain⟨x,hx,h⟩:=h;rw[Option.bind_eq_some_iff] at h;obtain⟨l',hl,h⟩:=h;injection h with h; obtain⟨h1,h2⟩:=iz hl
  grind [Ax]
theorem Aw{v:Value}{x:ae}(h:IJ v=some x):cC j M w x v:=by
 unfold IJ at h;split at h
 ·rw[Option.bind_eq_some_iff] at h;obtain⟨l,hl,h⟩:=h;cases h;obtain⟨h1,h2⟩:=iz hl;exact .agg (by omega) fun i c v hc hv=>h2 i c v hc (by grind)
 grind [Ax]
theorem aZ{env:Env}{a:Act}(he:aN j M w env a){x:Operand}{y:cR}(h:bH x=some y):cC j M w (y.ev env) (a.eval x):=by
 unfold bH at h;split at h
 ·cases h; exact he.at' _
 ·rw[Option.bind_eq_some_iff] at h;obtain⟨z,hz,h⟩:=h;cases h;exact Aw hz
 ·cases h;exact .func (by rfl) fun i c v hc=>by simp
 ·rename_i g;rw[Option.bind_eq_some_iff] at h;obtain⟨vs,hg,h⟩:=h;rw[Option.bind_eq_some_iff] at h;obtain⟨l,hl,h⟩:=h;cases h;obtain⟨h1,h2⟩:=Av (w:=w) (cV:=fY j M w) hl;refine .dq (vs:=fun k=>(vs[k]?).getD undef) fun k c hk=>?_
  have hk':=aq hk;have hv:vs[k]?=some _:=List.getElem?_eq_getElem (by omega)
  obtain⟨h3,h4⟩:=he.gl.g g _ k _ hg hv
  grind
theorem lG{env:Env}{a:Act}(he:aN j M w env a):∀ {xs:List Operand} {ys:List cR},mQ xs=some ys ->
  ys.length=xs.length/\∀(i:Nat)(y:cR)(x:Operand),ys[i]?=some y->xs[i]?=some x->cC j M w (y.ev env) (a.eval x)
 | [],ys,h=>by
  grind [mQ]
 |x::r,ys,h=>by
  simp[mQ] at h;rw[Option.bind_eq_some_iff] at h;obtain⟨y,hy,h⟩:=h;rw[Option.bind_eq_some_iff] at h;obtain⟨l,hl,h⟩:=h;injection h with h; obtain⟨h1,h2⟩:=lG he hl
  grind [aZ]
def cC.dy{b:Bool}{v:Value}(h:cC j M w (.bool b) v):v = .bool b:=by cases h with|plain h=>cases h; rfl
def cC.cq{k:IntKind}{n:Int}{v:Value}(h:cC j M w (.int k n) v):v = .int k n:=by cases h with|plain h=>cases h; rfl
def cC.eb{s:List UInt8}{v:Value}(h:cC j M w (.str s) v):v = .string (bs s):=by cases h with|plain h=>cases h; rfl
theorem cC.fB{cs:List ae}{v:Value}(h:cC j M w (.agg cs) v):∃vs,v = .agg vs/\cs.length=vs.size/\∀(i:Nat)(c:ae)(u:Value),cs[i]?=some c->vs[i]?=some u->cC j M w c u:=by
 cases h with
 |plain h=>cases h
 |agg hl h=>grind
theorem cC.kW{cs:List ae}{v:Value}(h:cC j M w (.tuple cs) v):∃vs,v = .tuple vs/\cs.length=vs.size/\∀(i:Nat)(c:ae)(u:Value),cs[i]?=some c->vs[i]?=some u->cC j M w c u:=by
 cases h with
 |plain h=>cases h
 |tuple hl h=>grind
theorem cC.jY{f:Nat}{cs:List ae}{v:Value}(h:cC j M w (.func f cs) v):∃vs,v = .func (.func f) #[] vs/\cs.length=vs.size/\∀(i:Nat)(c:ae)(u:Value),cs[i]?=some c->vs[i]?=some u->cC j M w c u:=by
 cases h with
 |plain h=>cases h
 |func hl h=>grind
theorem cC.ic{id off:Nat}{v:Value}(h:cC j M w (.ptr id off) v):∃b,id<M.length/\(∃cs,M[id]?=some (.cells cs))/\j id=some b/\v = .pointer (some ⟨b,off,none⟩):=by
 cases h with
 |plain h=>cases h
 |ptr h1 h2 h3=>grind
theorem cC.nh{id:Nat}{v:Value}(h:cC j M w (.cU id) v):∃b,(∃ks vs,M[id]?=some (.map ks vs))/\j id=some b/\v = .map (some b):=by
 cases h with
 |plain h=>cases h
 |cU h1 h2=>grind
theorem cC.wB{id:Nat}{v:Value}(h:cC j M w (.dD id) v):∃b,(∃s p,M[id]?=some (.fI s p))/\j id=some b/\v = .pointer (some ⟨b,0,none⟩):=by
 cases h with
 |plain h=>cases h
 |dD h1 h2=>grind
theorem cC.zO{f:Nat}{fs:List ae}{v:Value}(h:cC j M w (.iM f fs) v):∃vs:Array Value,v = .func (.func f) vs #[]/\fs.length=vs.size/\∀(i:Nat)(c:ae)(v:Value),fs[i]?=some c->vs[i]?=some v->vf w (fY j M w) c v:=by
 cases h with
 |plain h=>cases h
 |iM hl h=>grind
theorem cC.BN{t id off:Nat}{v:Value}(h:cC j M w (.dU t id off) v):∃b:Nat,(∃cs,M[id]?=some (.cells cs))/\j id=some b/\v = .iface t (.pointer (some ⟨b,off,none⟩)):=by
 cases h with
 |plain h=>cases h
 |dU h1 h2=>grind
def cC.Ba{ks vs:List ae}{v:Value}(h:cC j M w (.dI ks vs) v):∃(b:Nat) (es:Array MapEntry) (clock:Nat),v = .map (some b)/\w.heap[b]?=some (.map es clock)/\ks.length=es.size/\vs.length=es.size /\
  (∀(i:Nat)(k:ae)(e:MapEntry),ks[i]?=some k->es[i]?=some e->cg w (fY j M w) k e.key)/\∀(i:Nat)(v:ae)(e:MapEntry),vs[i]?=some v->es[i]?=some e->vf w (fY j M w) v e.val:=by
 cases h with
 |plain h=>cases h
 |dI hb hf hx hw hk hv hks hvs=>exact⟨_,_,_,rfl,hw,hk,hv,hks,hvs⟩
def cC.gw{id ver sz lo hi:Nat}{v:Value}(h:cC j M w (.aW id ver sz lo hi) v):((∃b off c,v = .slice (some ⟨b,off,none⟩) (hi-lo) c/\hi-lo<=c)\/hi-lo=0/\∃A,v = .slice A 0 0)/\id<M.length/\(∀bx,M[id]?=some bx->bx.loose=true) /\
  ∀sz' v' xs,M[id]?=some (.arr sz' v' xs)->ver<=v'/\(v'=ver->sz'=sz/\lo<=hi/\hi<=xs.length/\((xs=[]/\j id=none/\∃A,v = .slice A 0 0)\/∃b cap vs t,j id=some b/\v = .slice (some ⟨b,lo*sz,none⟩) (hi-lo) cap/\hi-lo<=cap/\w.heap[b]?=some (.cells vs t (0,0))/\(lo+cap)*sz<=vs.size)):=by
 cases h with
 |plain h=>cases h
 |aW h0 h1 h2 h3=>exact⟨h0,h1,h2,h3⟩
theorem cC.rH{id ver sz lo hi:Nat}{v:Value}(h:cC j M w (.aW id ver sz lo hi) v):∃A cap,v = .slice A (hi-lo) cap:=by
 rcases h.gw.1 with ⟨b,off,c,e,_⟩|⟨e,A,e'⟩
 ·grind
 grind
def cC.QV{id ver sz lo hi:Nat}{v:Value}(h:cC j M w (.aW id ver sz lo hi) v)(hne:lo<hi):∃b off c,v = .slice (some ⟨b,off,none⟩) (hi-lo) c/\hi-lo<=c :=
 h.gw.1.resolve_right fun e=>by omega
def cC.jX{id ver i off:Nat}{v:Value}(h:cC j M w (.dk id ver i off) v):(∃b o,v = .pointer (some ⟨b,o,none⟩))/\id<M.length/\(∀bx,M[id]?=some bx->bx.loose=true) /\
  ∀sz v' xs,M[id]?=some (.arr sz v' xs)->ver<=v'/\(v'=ver->i<xs.length/\∃b,j id=some b/\v = .pointer (some ⟨b,i*sz+off,none⟩)):=by
 cases h with
 |plain h=>cases h
 |dk h0 h1 h2 h3=>exact⟨h0,h1,h2,h3⟩
def cC.lL{cs:List ae}{v:Value}(h:cC j M w (.dq cs) v):∃(b off:Nat) (vs:Nat->Value),v = .pointer (some ⟨b,off,none⟩) /\
  ∀(k:Nat)(c:ae),cs[k]?=some c->w.cell? ⟨b,off+k,none⟩=some (vs k)/\fY j M w b (off+k)/\cg w (fY j M w) c (vs k):=by
 cases h with
 |plain h=>cases h
 | @dq _ b off vs h=>exact⟨b,off,vs,rfl,h⟩
theorem cg.nil(cV:Nat->Nat->Prop)(A:Option Addr)(cap:Nat):cg w cV (.slice .sh []) (.slice A 0 cap) :=
 .slice _ A 0 _ 0 0 0 (fun _=>undef) rfl (Nat.zero_le _) (fun h=>absurd rfl h) (fun x h=>by grind) (fun i x k c h=>by grind) (fun i x k c h=>by grind)
def cC.bw{tk:Tk}{xs:List ae}{v:Value}(h:cC j M w (.slice tk xs) v):cg w (fY j M w) (.slice .sh xs) v:=by
 cases h with
 |plain h=>cases h with|slice=>exact .slice _ _ _ _ _ _ _ _ (by omega) (by omega) (by omega) (by omega) (by omega) (by omega)
 |c0 A=>simp[cg.nil]
 |own _ _ h _=>omega
def cg.bw{cV:Nat->Nat->Prop}{xs:List ae}{v:Value}(h:cg w cV (.slice .sh xs) v):∃(A:Option Addr) (cap b off sz:Nat) (vs:Nat->Value),v = .slice A xs.length cap/\xs.length<=cap/\(xs≠[]->A=some ⟨b,off,none⟩) /\
  (∀x,x∈xs->x.cells.length=sz)/\(∀(i:Nat)(x:ae)(k:Nat)(c:ae),xs[i]?=some x->x.cells[k]?=some c->w.cell? ⟨b,off+(i*sz+k),none⟩=some (vs (i*sz+k))/\cV b (off+(i*sz+k))) /\
  (∀(i:Nat)(x:ae)(k:Nat)(c:ae),xs[i]?=some x->x.cells[k]?=some c->cg w cV c (vs (i*sz+k))):=by
 cases h with
 |slice _ A len cap b off sz vs hl hc ha hz hs hr=>subst hl; exact⟨A,cap,b,off,sz,vs,rfl,hc,ha,hz,hs,hr⟩
end
def ju(P:Program)(o:Oper)(a:Act)(w:World)(v:Value)(w':World):Prop :=
 (execOp a.eval o).run P w = .ok (.value v) w'\/((execOp a.eval o).run P w = .ok .skip w'/\v=undef)
theorem aw{α β:Type}{x:Option α}{f:α->Option β}{y:β}(h:x.bind f=some y):∃a,x=some a/\f a=some y:=by
 cases x<;>grind
section
variable {P:Program} {C:bL} {o:Oper} {env:Env} {M:aj} {j:J} {w:World} {a:Act} {x:ae×aj}
def bu{t:TypeId}{d:TypeDesc}(h:P.underlying t=some d):(underlying t).run P w = .ok d w:=by simp[underlying,h]
def gZ{t:TypeId}{i:TypeInfo}(h:P.info? t=some i):(typeInfo t).run P w = .ok i w:=by simp[typeInfo,h]
theorem xh{t:TypeId}{n:Nat}(h:iQ P t=some n):∃i,P.info? t=some i/\i.size=n:=by
 obtain⟨i,h1,h2⟩:=aw h
 grind
def dz{t:TypeId}{n:Nat}(h:iQ P t=some n):(sizeOf t).run P w = .ok n w:=by
 obtain⟨i,h1,h2⟩:=xh h;simp_all [sizeOf,gZ]
def eM{t:TypeId}{g:Bool}(h:vg P t=some g):(isAgg t).run P w = .ok g w:=by
 obtain⟨d,h1,h2⟩:=aw h;injection h2 with h2
 subst h2;simp[isAgg,bu h1];cases d<;>rfl
def fe(b off n:Nat):(⟨b,off,none⟩:Addr).add n=⟨b,off+n,none⟩:=by
 simp[Addr.add]
def vx(hr:Rel j M w)(he:aN j M w env a){y:Operand}{z:cR}(hop:o.op = .move y\/o.op = .assign y)(hz:bH y=some z)(h:bC C env M (.mv z)=some x) :
  ∃v w',ju P o a w v w'/\dn j M w x v w':=by
 cases h;exact⟨a.eval y,w,.inl (by rcases hop with hop|hop<;>simp[execOp,hop]),.still hr (aZ he hz)⟩
theorem TH(hr:Rel j M w)(he:aN j M w env a){c p q:Operand}{c' p' q':cR}(hop:o.op = .pick c p q)(hc:bH c=some c')(hp:bH p=some p')(hq:bH q=some q')
  (h:bC C env M (.pick c' p' q')=some x):∃v w',ju P o a w v w'/\dn j M w x v w':=by
 simp[bC] at h;have h1:=aZ he hc;split at h
 ·rename_i t ht;rw[ht] at h1;have h1:=h1.dy;rcases dW h with ⟨rfl,h⟩|⟨rfl,h⟩<;>(cases h)
  ·exact⟨a.eval p,w,.inl (by simp_all [execOp,asBool]),.still hr (aZ he hp)⟩
  ·exact⟨a.eval q,w,.inl (by simp_all [execOp,asBool]),.still hr (aZ he hq)⟩
 grind
theorem Zb(hr:Rel j M w)(he:aN j M w env a){y:Operand}{z:cR}(hop:o.op = .nilCheck y)(hz:bH y=some z)(h:bC C env M (.Rb z)=some x) :
  ∃v w',ju P o a w v w'/\dn j M w x v w':=by
 simp[bC] at h;have h1:=aZ he hz;split at h
 ·rename_i id off e;cases h;rw[e] at h1;obtain⟨b,_,_,_,hv⟩:=h1.ic;exact⟨_,w,.inl (by simp_all [execOp]),.still hr (hv▸h1)⟩
 ·rename_i cs e;cases h;rw[e] at h1;obtain⟨b,off,vs,hv,_⟩:=h1.lL;exact⟨_,w,.inl (by simp_all [execOp]),.still hr (hv▸h1)⟩
 ·rename_i f caps e;cases h;rw[e] at h1;obtain⟨vs,hv,_⟩:=h1.jY;exact⟨_,w,.inl (by simp_all [execOp]),.still hr (hv▸h1)⟩
 ·rename_i id v0 i off e;cases h;rw[e] at h1;obtain⟨⟨b,q,hv⟩,_⟩:=h1.jX;exact⟨_,w,.inl (by simp_all [execOp]),.still hr (hv▸h1)⟩
 grind
theorem Zd(hr:Rel j M w)(he:aN j M w env a){y:Operand}{z:cR}{t:TypeId}(hop:o.op = .unOp .not t y)(hz:bH y=some z)(h:bC C env M (.not z)=some x) :
  ∃v w',ju P o a w v w'/\dn j M w x v w':=by
 simp[bC] at h;have h1:=aZ he hz;split at h
 ·rename_i b e;cases h;rw[e] at h1;exact⟨_,w,.inl (by simp[execOp,hop,h1.dy]; rfl),.still hr (.plain (.bool _))⟩
 grind
theorem Zc(hr:Rel j M w)(he:aN j M w env a){y:Operand}{z:cR}{t:TypeId}(hop:o.op = .unOp .neg t y)(hz:bH y=some z)(h:bC C env M (.neg z)=some x) :
  ∃v w',ju P o a w v w'/\dn j M w x v w':=by
 simp only[bC] at h;have h1:=aZ he hz;split at h
 ·rename_i k n e;cases h;rw[e] at h1;exact⟨_,w,.inl (by simp only[execOp,hop,h1.cq]; rfl),.still hr (.plain (.int _ _))⟩
 grind
theorem TB(hr:Rel j M w)(he:aN j M w env a){y:Operand}{z:cR}{s d:TypeId}{k0 k:IntKind}(hop:o.op = .convert s d y)(hs:P.underlying s=some (.int k0))(hd:P.underlying d=some (.int k))
  (hz:bH y=some z) (h:bC C env M (.conv k z)=some x):∃v w',ju P o a w v w'/\dn j M w x v w':=by
 simp[bC] at h;have h1:=aZ he hz;split at h
 ·rename_i k1 n e;cases h;rw[e] at h1;refine⟨.int k _,w,.inl ?_,.still hr (.plain (.int _ _))⟩;simp[execOp,hop,convert,bu hs,bu hd,h1.cq,Conv.intToInt]
 grind
theorem TJ(hr:Rel j M w)(he:aN j M w env a){y:Operand}{z:cR}{s d:TypeId}(hop:o.op = .convert s d y)(hs:P.underlying s=some .string)(hd:P.underlying d=some .string)
  (hz:bH y=some z) (h:bC C env M (.same z)=some x):∃v w',ju P o a w v w'/\dn j M w x v w':=by
 simp[bC] at h;have h1:=aZ he hz;split at h
 ·rename_i l e;cases h;rw[e] at h1;refine⟨.string _,w,.inl ?_,.still hr (.plain (.str _))⟩;simp[execOp,hop,convert,bu hs,bu hd,h1.eb]
 grind
theorem ahf(hr:Rel j M w)(he:aN j M w env a){f:Nat}{first caps:Array Operand}{zs:List cR}(hop:o.op = .makeFunc (.func f) first caps)(hf:first.isEmpty=true)(hz:mQ caps.toList=some zs)
  (h:bC C env M (.fn f zs)=some x):∃v w',ju P o a w v w'/\dn j M w x v w':=by
 cases h;obtain⟨h1,h2⟩:=lG he hz;have hf':first = #[]:=by grind
 refine⟨.func _ _ (caps.map a.eval),w,.inl ?_,.still hr (.func (by grind) fun i c v hc hv=>?_)⟩
 ·simp[execOp,hop,Instr.makeFunc,hf']
 grind
theorem Eg(hr:Rel j M w)(he:aN j M w env a){y:Operand}{z:cR}{i:Nat}(hop:o.op = .extract y i)(hz:bH y=some z)(h:bC C env M (.extract z i)=some x) :
  ∃v w',ju P o a w v w'/\dn j M w x v w':=by
 simp[bC] at h;have h1:=aZ he hz;split at h
 ·rename_i vs e;obtain⟨c,hc,h⟩:=az h;cases h;rw[e] at h1;obtain⟨us,hv,hl,hu⟩:=h1.kW;rw[cf] at hc;have hi:=aq hc;have hui:us[i]?=some _:=Array.getElem?_eq_getElem (by omega)
  exact⟨_,w,.inl (by simp[execOp,hop,Instr.extract,hv,hui]),.still hr (hu i c _ hc hui)⟩
 grind
theorem TD(hr:Rel j M w)(he:aN j M w env a){c:Call}{y:Operand}{z:cR}{t:TypeId}(hop:o.op = .call c)(hb:c.callee = .builtin .len)(ha:c.args.toList=[y])
  (ht:c.argTypes[0]?=some t) (hs:P.underlying t=some .string) (hz:bH y=some z) (h:bC C env M (.Hn z)=some x):∃v w',ju P o a w v w'/\dn j M w x v w':=by
 simp only[bC] at h;have h1:=aZ he hz;split at h
 ·rename_i l e;cases h;rw[e] at h1;have ha':c.args = #[y]:=by rw[<-ha]
  refine⟨.int .i64 _,w,.inl ?_,.still hr (.plain (.int _ _))⟩;have hsz:(bs l).size=l.length:=by rfl
  simp[execOp,hop,resolve,hb,invoke,builtin,Builtin.len_,ha',ht,bu hs,h1.eb,goInt,hsz]
 grind
theorem TE(hr:Rel j M w)(he:aN j M w env a){c:Call}{y:Operand}{z:cR}{t e:TypeId}(hop:o.op = .call c)(hb:c.callee = .builtin .len)(ha:c.args.toList=[y])
  (ht:c.argTypes[0]?=some t) (hs:P.underlying t=some (.slice e)) (hz:bH y=some z) (h:bC C env M (.wJ z)=some x):∃v w',ju P o a w v w'/\dn j M w x v w':=by
 simp only[bC] at h;have h1:=aZ he hz;split at h
 ·rename_i tk l e;cases h;rw[e] at h1;have ha':c.args = #[y]:=by rw[<-ha]
  obtain⟨A,cap,b,off,sz,vs,hv,_⟩:=h1.bw.bw;refine⟨.int .i64 l.length,w,.inl ?_,.still hr (.plain (.int _ _))⟩;simp[execOp,hop,resolve,hb,invoke,builtin,Builtin.len_,ha',ht,bu hs,hv,goInt]
 ·rename_i id v0 sz lo hi e;cases h;rw[e] at h1;have ha':c.args = #[y]:=by rw[<-ha]
  obtain⟨A,cap,hv⟩:=h1.rH;refine⟨.int .i64 (hi-lo:Nat),w,.inl ?_,.still hr (.plain (.int _ _))⟩;simp[execOp,hop,resolve,hb,invoke,builtin,Builtin.len_,ha',ht,bu hs,hv,goInt]
 grind
theorem yD(hr:Rel j M w)(he:aN j M w env a){c:Call}{y y':Operand}{z z':cR}{mx:Bool}(hop:o.op = .call c)(hb:c.callee = .builtin (if mx then .max else .min))(ha:c.args.toList=[y,y'])
  (hz:bH y=some z) (hz':bH y'=some z') (h:bC C env M (.rm mx z z')=some x):∃v w',ju P o a w v w'/\dn j M w x v w':=by
 simp only[bC] at h;have h1:=aZ he hz;have h2:=aZ he hz';split at h
 ·rename_i k n k' n' e e';cases h;rw[e] at h1;rw[e'] at h2;have ha':c.args = #[y,y']:=by rw[<-ha]
  refine⟨_,w,.inl ?_,.still hr (.plain (.int _ _))⟩;cases mx
  ·simp[execOp,hop,resolve,hb,invoke,builtin,Builtin.min_,Builtin.min2,ha',h1.cq,h2.cq,List.foldlM]
  ·simp[execOp,hop,resolve,hb,invoke,builtin,Builtin.max_,Builtin.max2,ha',h1.cq,h2.cq]
 grind
theorem HF(hr:Rel j M w)(he:aN j M w env a){y i:Operand}{z z':cR}{t:TypeId}(hop:o.op = .index t y i)(ht:P.underlying t=some .string)(hz:bH y=some z)(hz':bH i=some z')
  (h:bC C env M (.oT z z')=some x):∃v w',ju P o a w v w'/\dn j M w x v w':=by
 simp only[bC] at h;have h1:=aZ he hz;have h2:=aZ he hz';split at h
 ·rename_i l k n e e';obtain⟨hn,h⟩:=bd h;obtain⟨b,hb,h⟩:=az h;cases h;rw[e] at h1;rw[e'] at h2;refine⟨.int .u8 b.toNat,w,.inl ?_,.still hr (.plain (.int _ _))⟩
  have hg:(bs l)[n.toNat]?=some b:=by
   have hlt:=aq hb;have:n.toNat<(bs l).size:=by simp_all [bs,ByteArray.size]
   rw[getElem?_pos (bs l) n.toNat this];congr 1
   have h3:l[n.toNat]=b:=by
    have:=List.getElem?_eq_getElem hlt
    grind
   exact h3
  simp[execOp,hop,Instr.index,asIntOf,bu ht,h1.eb,h2.cq,hn,hg]
 ·cases h
theorem HC(hr:Rel j M w)(he:aN j M w env a){y:Operand}{z:cR}{s:TypeId}{fs:Array Field}{f:Field}{i:Nat}(hop:o.op = .field s y i)(hs:P.underlying s=some (.struct fs))(hf:fs[i]?=some f)
  (hg:vg P f.type=some false) (hz:bH y=some z) (h:bC C env M (.tz f.offset z)=some x):∃v w',ju P o a w v w'/\dn j M w x v w':=by
 simp[bC] at h;have h1:=aZ he hz;split at h
 ·rename_i cs e;obtain⟨c,hc,h⟩:=az h;cases h;rw[e] at h1;obtain⟨us,hv,hl,hu⟩:=h1.fB;rw[cf] at hc;have hi:=aq hc;have hui:us[f.offset]?=some _:=Array.getElem?_eq_getElem (by omega)
  refine⟨_,w,.inl ?_,.still hr (hu _ c _ hc hui)⟩;simp[execOp,hop,Instr.field,bu hs,hf,asAgg,hv,part,eM hg,hui]
 grind
theorem HD(hr:Rel j M w)(he:aN j M w env a){y:Operand}{z:cR}{s:TypeId}{fs:Array Field}{f:Field}{i n:Nat}(hop:o.op = .field s y i)(hs:P.underlying s=some (.struct fs))(hf:fs[i]?=some f)
  (hg:vg P f.type=some true) (hn:iQ P f.type=some n) (hz:bH y=some z) (h:bC C env M (.tC f.offset n z)=some x):∃v w',ju P o a w v w'/\dn j M w x v w':=by
 simp only[bC] at h;have h1:=aZ he hz;split at h
 ·rename_i cs e;split at h
  ·cases h;rw[e] at h1;obtain⟨us,hv,hl,hu⟩:=h1.fB;refine⟨.agg (us.extract f.offset (f.offset+n)),w,.inl ?_,.still hr (.agg (by grind) fun p c u hc hu'=>?_)⟩
   ·simp[execOp,hop,Instr.field,bu hs,hf,asAgg,hv,part,eM hg,dz hn]
   grind
  ·cases h
 ·cases h
theorem O8(hr:Rel j M w)(he:aN j M w env a){y:Operand}{z:cR}{s:TypeId}{fs:Array Field}{f:Field}{i:Nat}(hop:o.op = .fieldAddr s y i)(hs:P.underlying s=some (.struct fs))(hf:fs[i]?=some f)
  {n:Nat} (hn:iQ P f.type=some n) (hpos:0<n) (hz:bH y=some z) (h:bC C env M (.du f.offset z)=some x):∃v w',ju P o a w v w'/\dn j M w x v w':=by
 simp only[bC] at h;have h1:=aZ he hz
 have hrun:∀b off,a.eval y = .pointer (some ⟨b,off,none⟩)->(execOp a.eval o).run P w = .ok (.value (.pointer (some ⟨b,off+f.offset,none⟩))) w:=by
  intro b off hv;have hne:n≠0:=by omega
  simp[execOp,hop,Instr.fieldAt,bu hs,hf,Instr.sureAddr,hv,fieldPlace,dz hn,hne,fe]
 split at h
 ·rename_i id off e;cases h;rw[e] at h1;obtain⟨b,h2,h3,h4,hv⟩:=h1.ic;exact⟨_,w,.inl (hrun _ _ hv),.still hr (.ptr h2 h3 h4)⟩
 ·rename_i cs e;cases h;rw[e] at h1;obtain⟨b,off,vs,hv,hc⟩:=h1.lL;refine⟨_,w,.inl (hrun _ _ hv),.still hr (.dq (vs:=fun k=>vs (f.offset+k)) fun k c hk=>?_)⟩
  rw[List.getElem?_drop] at hk;have:=hc _ c hk;rw[Nat.add_assoc];omega
 ·rename_i id v0 i0 o0 e;cases h;rw[e] at h1;obtain⟨⟨b,q,hv⟩,h2,h3,h4⟩:=h1.jX;refine⟨_,w,.inl (hrun _ _ hv),.still hr (.dk ⟨_,_,rfl⟩ h2 h3 fun sz v' xs hM=>?_)⟩
  grind
 grind
end
theorem Q8(l:List UInt8):∀(n i:Nat)(acc:List UInt8),i+n=l.length->ByteArray.toList.loop (bs l) i acc=acc.reverse++l.drop i:=by
 intro n;induction n with
 |zero =>
  simp_all [bs,ByteArray.size,ByteArray.toList.loop]
 |succ n ih =>
  intro i acc h;have hs:(bs l).size=l.length:=by rfl
  rw[ByteArray.toList.loop,if_pos (by omega)]
  grind [bs,ByteArray.get!,List.reverse_cons,List.append_assoc,List.singleton_append,List.drop_eq_getElem_cons]
def mP(l:List UInt8):(bs l).toList=l:=by
 rw[ByteArray.toList,Q8 l l.length 0 _ (by simp)]; rfl
def EO(l:List UInt8):(bs l).size=l.length:=by rfl
def CG:∀a b:List UInt8,Op.bytesLess a b=strLt a b
 | [],[]=>rfl
 | [],_::_=>rfl
 |_::_,[]=>rfl
 |a::x,b::y=>by simp[Op.bytesLess,strLt,CG x y]
def qT(a:List UInt8)(l h:Nat):(bs a).extract l h=bs ((a.take h).drop l):=by
 apply ByteArray.ext;simp[bs,List.drop_take]
section
variable {P:Program} {C:bL} {o:Oper} {env:Env} {M:aj} {j:J} {w:World} {a:Act} {x:ae×aj}
def G7(op:BinOp)(t:TypeId)(y z:Operand)(k k':IntKind)(m n:Int):(eqGuard op t y z (.int k m) (.int k' n)).run P w = .ok () w:=by
 simp[eqGuard]
def G8(op:BinOp)(t:TypeId)(y z:Operand)(m n:ByteArray):(eqGuard op t y z (.string m) (.string n)).run P w = .ok () w:=by
 simp[eqGuard]
def wv(op:BinOp)(t:TypeId)(y z:Operand)(m n:Bool):(eqGuard op t y z (.bool m) (.bool n)).run P w = .ok () w:=by
 simp[eqGuard]
theorem Q4{op:BinOp}{b:Ga}(hb:Gx op=some b){t:TypeId}{k k':IntKind}{m n:Int}{r:ae}(h:iI b (.int k m) (.int k' n)=some r) :
  ∃v,(binOp op t (.int k m) (.int k' n)).run P w = .ok v w/\cg w (fY j M w) r v:=by
 cases op<;>simp only[Gx,reduceCtorEq,Option.some.injEq] at hb<;>subst hb<;>simp only[iI] at h
 case shl =>
  split at h
  ·rename_i hn;cases h;exact⟨_,by simp[binOp,Op.shift,Int.not_lt.2 hn],.int _ _⟩
  ·cases h
 case shr =>
  split at h
  ·rename_i hn;cases h;exact⟨_,by simp[binOp,Op.shift,Int.not_lt.2 hn],.int _ _⟩
  grind
 case quo =>
  split at h
  ·cases h
  ·rename_i hk;split at h
   ·cases h
   ·rename_i hn;cases h;have hk:k=k':=by grind
    subst hk;exact⟨_,by simp[binOp,Op.intDiv,hn],.int _ _⟩
 case rem =>
  split at h
  ·cases h
  ·rename_i hk;split at h
   ·cases h
   ·rename_i hn;cases h;have hk:k=k':=by grind
    subst hk;exact⟨_,by simp[binOp,Op.intDiv,hn],.int _ _⟩
 case and =>
  split at h
  ·cases h
  ·rename_i hk;cases h;have hk:k=k':=by grind
   subst hk;exact⟨_,by simp[binOp,Op.intBits]; rfl,.int _ _⟩
 case or =>
  split at h
  ·grind
  ·rename_i hk;cases h;have hk:k=k':=by grind
   subst hk;exact⟨_,by simp[binOp,Op.intBits]; rfl,.int _ _⟩
 case xor =>
  split at h
  ·grind
  ·rename_i hk;cases h;have hk:k=k':=by grind
   subst hk;exact⟨_,by simp[binOp,Op.intBits]; rfl,.int _ _⟩
 all_goals
  split at h
  ·cases h
  ·rename_i hk;cases h;have hk:k=k':=by simpa using hk
   subst hk
   first
    |exact⟨_,by simp[binOp,Op.intArith],.int _ _⟩
    |exact⟨_,by simp[binOp,Op.intCmp],.bool _⟩
theorem Q5{op:BinOp}{b:Ga}(hb:Gx op=some b){t:TypeId}{m n:List UInt8}{r:ae}(h:iI b (.str m) (.str n)=some r) :
  ∃v,(binOp op t (.string (bs m)) (.string (bs n))).run P w = .ok v w/\cg w (fY j M w) r v:=by
 cases op<;>simp only[Gx,reduceCtorEq,Option.some.injEq] at hb<;>subst hb<;>simp only[iI,reduceCtorEq] at h
 case add =>
  split at h
  ·grind
  ·cases h;refine⟨.string (bs m++bs n),?_,by exact .str _⟩
   simp_all [binOp,Op.stringOp,EO,if_neg]
 all_goals
  cases h;exact⟨_,by simp only[binOp,Op.stringOp,mP,CG]; rfl,.bool _⟩
def O1(hr:Rel j M w)(he:aN j M w env a){op:BinOp}{b:Ga}{y y':Operand}{z z':cR}{t t':TypeId}(hop:o.op = .binOp op t y y' t')(hb:Gx op=some b)(hz:bH y=some z)(hz':bH y'=some z')
  (h:bC C env M (.bin b z z')=some x):∃v w',ju P o a w v w'/\dn j M w x v w':=by
 simp only[bC] at h;have h1:=aZ he hz;have h2:=aZ he hz';obtain⟨r,hr',h⟩:=az h;cases h;generalize hu:z.ev env=u at *;generalize hu':z'.ev env=u' at *;cases u<;>cases u'<;>try (simp[iI] at hr'; done)
 ·rename_i k m k' n;obtain⟨v,hv,hp⟩:=Q4 (P:=P) (w:=w) (j:=j) (M:=M) (t:=t) hb hr';exact⟨v,w,.inl (by simp[execOp,hop,h1.cq,h2.cq,G7,hv]),.still hr (.plain hp)⟩
 ·rename_i m n;obtain⟨v,hv,hp⟩:=Q5 (P:=P) (w:=w) (j:=j) (M:=M) (t:=t) hb hr';exact⟨v,w,.inl (by simp[execOp,hop,h1.eb,h2.eb,G8,hv]),.still hr (.plain hp)⟩
theorem O7(hr:Rel j M w)(he:aN j M w env a){neg:Bool}{y y':Operand}{z z':cR}{t t':TypeId}(hop:o.op = .binOp (if neg then .neq else .eql) t y y' t')(ht:P.underlying t=some .bool)
  (hz:bH y=some z) (hz':bH y'=some z') (h:bC C env M (.Wp neg z z')=some x):∃v w',ju P o a w v w'/\dn j M w x v w':=by
 simp only[bC] at h;have h1:=aZ he hz;have h2:=aZ he hz';split at h
 ·rename_i m n e e';cases h;rw[e] at h1;rw[e'] at h2
  have heq:(Op.equal t (.bool m) (.bool n)).run P w = .ok (m==n) w:=by
   unfold Op.equal;rw[show Op.maxDepth=9999+1 from rfl,Op.equalIn]
   simp[bu ht]
  cases neg
  ·exact⟨.bool (m==n),w,.inl (by simp[execOp,hop,h1.dy,h2.dy,wv,binOp,heq]),.still hr (.plain (.bool _))⟩
  ·exact⟨.bool (!(m==n)),w,.inl (by simp[execOp,hop,h1.dy,h2.dy,wv,binOp,heq]),.still hr (.plain (.bool _))⟩
 grind
theorem iR{env:Env}{a:Act}(he:aN j M w env a){y:Operand}{z:cR}(hz:bH y=some z){n:Nat}{i:Int}(h:bX env n (some z)=some i){m:Nat}(h0:0<=i)(h1:i<=m)(code:BoundsCode) :
  (Instr.sliceBound (a.eval y) m code).run P w = .ok i.toNat w:=by
 unfold bX at h;have h2:=aZ he hz;simp at h;split at h
 ·rename_i k i' e;cases h;rw[e] at h2;simp[Instr.sliceBound,h2.cq,asIntOf,h0,h1]
 grind
theorem jd{y:Option Operand}{z:Option cR}(h:vi y=some z):(y=none/\z=none)\/∃y' z',y=some y'/\z=some z'/\bH y'=some z':=by
 cases y with
 |none=>grind [vi]
 |some y =>
  obtain⟨z',h1,h2⟩:=aw h
  grind
def qS{env:Env}{a:Act}(he:aN j M w env a){lo hi:Option Operand}{lo' hi':Option cR}(hlo:vi lo=some lo')(hhi:vi hi=some hi'){len cap:Nat}{l h:Int}
  (h1:bX env len hi'=some h) (h2:bX env 0 lo'=some l) (hh0:0<=h) (hh:h<=len) (hl0:0<=l) (hl:l<=h) (hc:len<=cap) (isS:Bool) :
  (Instr.sliceBounds isS len cap (lo.map a.eval) (hi.map a.eval) none).run P w = .ok (l.toNat,h.toNat,cap) w:=by
 unfold Instr.sliceBounds;rcases jd hhi with ⟨rfl,rfl⟩|⟨y,z,rfl,rfl,hz⟩<;>rcases jd hlo with ⟨rfl,rfl⟩|⟨y',z',rfl,rfl,hz'⟩
 ·simp[bX] at h1 h2; subst h1; subst h2; rfl
 ·simp[bX] at h1; subst h1;have:=iR (P:=P) he hz' h2 hl0 (by omega) .sliceB
  simp_all
 ·simp[bX] at h2; subst h2;have:=iR (P:=P) he hz h1 hh0 (m:=cap) (by omega) (if isS then .sliceAcap else .sliceAlen)
  simp_all
 ·have t1:=iR (P:=P) he hz h1 hh0 (m:=cap) (by omega) (if isS then .sliceAcap else .sliceAlen)
  have t2:=iR (P:=P) he hz' h2 hl0 (m:=h.toNat) (by omega) .sliceB
  simp_all
theorem HG(hr:Rel j M w)(he:aN j M w env a){y:Operand}{lo hi:Option Operand}{z:cR}{lo' hi':Option cR}{t:TypeId}(hop:o.op = .slice t y lo hi none)(ht:P.underlying t=some .string)
  (hz:bH y=some z) (hlo:vi lo=some lo') (hhi:vi hi=some hi') (h:bC C env M (.pc z lo' hi')=some x):∃v w',ju P o a w v w'/\dn j M w x v w':=by
 simp[bC] at h;have h1:=aZ he hz;split at h
 ·rename_i s e;obtain⟨hh,h2,h⟩:=az h;obtain⟨l,h3,h⟩:=az h;obtain⟨⟨c1,c2,c3,c4⟩,h⟩:=bd h;cases h;rw[e] at h1;have hb:=qS (P:=P) he hlo hhi h2 h3 c1 c2 c3 c4 (Nat.le_refl _) false;refine⟨.string _,w,.inl ?_,.still hr (.plain (.str _))⟩;simp[execOp,hop,Instr.sliceAt,bu ht,Instr.slice,h1.eb,EO,hb,qT]
 grind
theorem cg.part{cV:Nat->Nat->Prop}{xs:List ae}{A:Option Addr}{cap m l h n:Nat}(hx:cg w cV (.slice .sh xs) (.slice A xs.length cap))(hw:wid xs n)(hl:l<=h)(hh:h<=xs.length)(hm:h<=m) :
  cg w cV (.slice .sh ((xs.take h).drop l)) (.slice (if m=l then A else A.map (·.add (l*n))) (h-l) (m-l)):=by
 obtain⟨A',cap',b,off,sz,vs,hv,hc,ha,hz,hs,hrp⟩:=hx.bw;injection hv with e1 e2 e3
 subst e1; subst e3;have hlen:((xs.take h).drop l).length=h-l:=by simp_all
 refine .slice _ _ _ _ b (off+l*sz) sz (fun p=>vs (l*sz+p)) hlen.symm (by omega) (fun hne=>?_) (fun x hx=>hz x (List.mem_of_mem_take (List.mem_of_mem_drop hx))) (fun i x k c hi hk=>?_) (fun i x k c hi hk=>?_)
 ·have:0<h-l:=by
   rw[<-hlen]; exact List.length_pos_iff.2 hne
  rw[if_neg (by omega)]
  have hne':xs≠[]:=by grind
  rw[ha hne']
  have:n=sz:=by
   obtain⟨x,r,rfl⟩:=List.exists_cons_of_ne_nil hne';rw[<-hw x (by simp),hz x (by simp)]
  simp[fe,this]
 ·grind
 grind
theorem HH(hr:Rel j M w)(he:aN j M w env a){y:Operand}{lo hi mx:Option Operand}{z:cR}{lo' hi' mx':Option cR}{t e:TypeId}{n:Nat}(hop:o.op = .slice t y lo hi mx)(ht:P.underlying t=some (.slice e))
  (hn:iQ P e=some n) (hz:bH y=some z) (hlo:vi lo=some lo') (hhi:vi hi=some hi') (hmx:vi mx=some mx') (hmh:mx'.isNone=true\/hi'.isSome=true)
  (h:bC C env M (.rz n z lo' hi' mx')=some x):∃v w',ju P o a w v w'/\dn j M w x v w':=by
 simp only[bC] at h;have h1:=aZ he hz;split at h
 ·rename_i tk xs ez;obtain⟨hw,h⟩:=bd h;obtain⟨hh,h2,h⟩:=az h;obtain⟨l,h3,h⟩:=az h;rw[ez] at h1;have hp:=h1.bw;obtain⟨A,cap,b,off,sz,vs,hv,hc,_⟩:=hp.bw;rw[hv] at hp;rcases jd hmx with ⟨rfl,rfl⟩|⟨my,mz,rfl,rfl,hmz⟩
  ·simp only at h;obtain⟨⟨c1,c2,c3,c4⟩,h⟩:=bd h;cases h;have hb:=qS (P:=P) he hlo hhi (cap:=cap) h2 h3 c1 c2 c3 c4 hc true;refine⟨_,w,.inl ?_,.still hr (.plain (hp.part (m:=cap) (l:=l.toNat) (h:=hh.toNat) hw (by omega) (by omega) (by omega)))⟩
   simp[execOp,hop,Instr.sliceAt,bu ht,Instr.slice,hv,hb,dz hn]
  ·simp only at h;split at h
   ·rename_i mk m em;obtain⟨⟨c0,c0',c1,c2,c3,c4⟩,h⟩:=bd h;have hm:=aZ he hmz;rw[em] at hm
    have hmr:(Instr.sliceBound (a.eval my) cap .slice3Acap).run P w = .ok m.toNat w:=by
     simp[Instr.sliceBound,hm.cq,asIntOf,c0,show m<=cap by omega]
    have hbs:(Instr.sliceBounds true xs.length cap (lo.map a.eval) (hi.map a.eval) (some (a.eval my))).run P w = .ok (l.toNat,hh.toNat,m.toNat) w:=by
     unfold Instr.sliceBounds;rcases jd hhi with ⟨rfl,rfl⟩|⟨hy,hz',rfl,rfl,hhz⟩
     ·simp at hmh
     ·have t1:=iR (P:=P) he hhz h2 c1 (m:=m.toNat) (by omega) .slice3B
      rcases jd hlo with ⟨rfl,rfl⟩|⟨y',z',rfl,rfl,hz'⟩
      ·simp[bX] at h3; subst h3;simp[hmr,t1]
      ·have t2:=iR (P:=P) he hz' h3 c3 (m:=hh.toNat) (by omega) .slice3C
       simp[hmr,t1,t2]
    have hrun:(execOp a.eval o).run P w = .ok (.value (.slice (if m.toNat=l.toNat then A else A.map (·.add (l.toNat*n))) (hh.toNat-l.toNat) (m.toNat-l.toNat))) w:=by
     simp[execOp,hop,Instr.sliceAt,bu ht,Instr.slice,hv,hbs,dz hn]
    rcases dW h with ⟨hm0,h⟩|⟨hm0,h⟩<;>(cases h)
    ·have hm0:m=0:=by simpa using hm0
     subst hm0;have e1:hh=0:=by omega
     have e2:l=0:=by omega
     subst e1; subst e2;exact⟨_,w,.inl hrun,.still hr (.c0 _)⟩
    ·exact⟨_,w,.inl hrun,.still hr (.plain (hp.part (m:=m.toNat) hw (by omega) (by omega) (by omega)))⟩
   ·cases h
 ·rename_i id v0 sz' al ah ez;obtain⟨hsz,h⟩:=bd h;subst hsz;obtain⟨hh,h2,h⟩:=az h;obtain⟨l,h3,h⟩:=az h;rw[ez] at h1;obtain⟨hs0,g1,g2,g3⟩:=h1.gw
  obtain⟨A,cap,hv,hc,hA⟩:∃A cap,a.eval y = .slice A (ah-al) cap/\ah-al<=cap/\(0<ah-al->∃b off,A=some ⟨b,off,none⟩):=by
   grind
  have key:∀m:Nat,m<=cap->0<=l->l<hh->hh<=m->hh<=(ah-al:Nat)->cC j M w (.aW id v0 sz' (al+l.toNat) (al+hh.toNat)) (.slice (A.map (·.add (l.toNat*sz'))) (hh.toNat-l.toNat) (m-l.toNat)):=by
   intro m hmc hl0 hlh hhm hha;obtain⟨b,off,rfl⟩:=hA (by omega)
   simp only[Option.map_some,fe];have e0:al+hh.toNat-(al+l.toNat)=hh.toNat-l.toNat:=by omega
   have e6:hh.toNat-l.toNat<=m-l.toNat:=by clear g3 g2 h1 hv; omega
   have e7:al+l.toNat+(m-l.toNat)<=al+cap:=by omega
   have e8:al+l.toNat<=al+hh.toNat:=by omega
   have e9:al+hh.toNat<=ah:=by clear g3 g2 h1 hv; omega
   refine .aW (.inl ⟨b,off+l.toNat*sz',m-l.toNat,by rw[e0],by rw[e0]; exact e6⟩) g1 g2 fun sz v' xs hM=>?_
   obtain⟨k1,k2⟩:=g3 sz v' xs hM;refine⟨k1,fun hev=>?_⟩
   obtain⟨l0,l1,l2,⟨rfl,_⟩|⟨b',cap',vs,t',l3,l4,l5,l6,l7⟩⟩:=k2 hev
   ·simp at l2; omega
   rw[hv] at l4;injection l4 with l4 l4' l4''
   injection l4 with l4; injection l4 with e1 e2 e3
   subst e1; subst e2; subst l4'';exact⟨l0,e8,Nat.le_trans e9 l2,.inr ⟨b,m-l.toNat,vs,t',l3,by rw[e0,Nat.add_mul],by rw[e0]; exact e6,l6,Nat.le_trans (Nat.mul_le_mul_right _ e7) l7⟩⟩
  rcases jd hmx with ⟨rfl,rfl⟩|⟨my,mz,rfl,rfl,hmz⟩
  ·simp only at h;obtain⟨⟨c1,c2,c3,c4⟩,h⟩:=bd h;have hb:=qS (P:=P) he hlo hhi (cap:=cap) h2 h3 c1 c2 c3 c4 hc true
   have hrun:(execOp a.eval o).run P w = .ok (.value (.slice (if cap=l.toNat then A else A.map (·.add (l.toNat*sz'))) (hh.toNat-l.toNat) (cap-l.toNat))) w:=by
    simp[execOp,hop,Instr.sliceAt,bu ht,Instr.slice,hv,hb,dz hn]
   rcases dW h with ⟨hm0,h⟩|⟨hm0,h⟩<;>(cases h)
   ·have:l=hh:=by simpa using hm0
    subst this;refine⟨_,w,.inl hrun,.still hr (.plain ?_)⟩;rw[Nat.sub_self];exact cg.nil _ _ _
   ·have:l≠hh:=by simpa using hm0
    rw[if_neg (by omega)] at hrun
    exact⟨_,w,.inl hrun,.still hr (key cap (Nat.le_refl _) c3 (by omega) (by omega) c2)⟩
  ·simp only at h;split at h
   ·rename_i mk m em;obtain⟨⟨c0,c0',c1,c2,c3,c4⟩,h⟩:=bd h;have hm:=aZ he hmz;rw[em] at hm
    have hmr:(Instr.sliceBound (a.eval my) cap .slice3Acap).run P w = .ok m.toNat w:=by
     simp[Instr.sliceBound,hm.cq,asIntOf,c0,show m<=cap by omega]
    have hbs:(Instr.sliceBounds true (ah-al) cap (lo.map a.eval) (hi.map a.eval) (some (a.eval my))).run P w = .ok (l.toNat,hh.toNat,m.toNat) w:=by
     unfold Instr.sliceBounds;rcases jd hhi with ⟨rfl,rfl⟩|⟨hy,hz',rfl,rfl,hhz⟩
     ·simp at hmh
     ·have t1:=iR (P:=P) he hhz h2 c1 (m:=m.toNat) (by omega) .slice3B
      rcases jd hlo with ⟨rfl,rfl⟩|⟨y',z',rfl,rfl,hz'⟩
      ·simp[bX] at h3; subst h3;simp[hmr,t1]
      ·have t2:=iR (P:=P) he hz' h3 c3 (m:=hh.toNat) (by omega) .slice3C
       simp[hmr,t1,t2]
    have hrun:(execOp a.eval o).run P w = .ok (.value (.slice (if m.toNat=l.toNat then A else A.map (·.add (l.toNat*sz'))) (hh.toNat-l.toNat) (m.toNat-l.toNat))) w:=by
     simp[execOp,hop,Instr.sliceAt,bu ht,Instr.slice,hv,hbs,dz hn]
    rcases dW h with ⟨hm0,h⟩|⟨hm0,h⟩
    ·cases h;have hm0:m=0:=by simpa using hm0
     subst hm0;have e1:hh=0:=by omega
     have e2:l=0:=by omega
     subst e1; subst e2;exact⟨_,w,.inl hrun,.still hr (.c0 _)⟩
    ·rcases dW h with ⟨hm1,h⟩|⟨hm1,h⟩<;>(cases h)
     ·have:l=hh:=by simpa using hm1
      subst this;refine⟨_,w,.inl hrun,.still hr (.plain ?_)⟩;rw[Nat.sub_self];exact cg.nil _ _ _
     ·have:l≠hh:=by simpa using hm1
      rw[if_neg (by omega)] at hrun
      exact⟨_,w,.inl hrun,.still hr (key m.toNat (by omega) c3 (by omega) (by omega) (by omega))⟩
   ·cases h
 ·cases h
theorem O9(hr:Rel j M w)(he:aN j M w env a){y i:Operand}{z z':cR}{t e:TypeId}{n:Nat}(hop:o.op = .indexAddr t y i)(ht:P.underlying t=some (.slice e))(hn:iQ P e=some n)
  (hz:bH y=some z) (hz':bH i=some z') (h:bC C env M (.mY n z z')=some x):∃v w',ju P o a w v w'/\dn j M w x v w':=by
 simp only[bC] at h;have h1:=aZ he hz;have h2:=aZ he hz';split at h
 ·rename_i tk xs k m ez ez';obtain⟨h0,h⟩:=bd h;obtain⟨el,hel,h⟩:=az h;split at h
  ·rename_i hwd;cases h;rw[ez] at h1;rw[ez'] at h2;obtain⟨A,cap,b,off,sz,vs,hv,hc,ha,hsz,hs,hrp⟩:=h1.bw.bw;have hlt:=aq hel;have hne:xs≠[]:=by rintro rfl; simp at hlt
   have hA:=ha hne;have hsz':sz=n:=by rw[<-hwd]; exact(hsz el (List.mem_of_getElem? hel)).symm
   subst hsz';subst hA;refine⟨.pointer (some ⟨b,off+m.toNat*sz,none⟩),w,.inl ?_,.still hr (.dq (vs:=fun q=>vs (m.toNat*sz+q)) fun q c hq=>?_)⟩
   ·have hm:m<xs.length:=by omega
    simp[execOp,hop,Instr.indexAt,bu ht,hv,h2.cq,asIntOf,h0,hm,dz hn,fe]
   grind
  ·cases h
 ·rename_i id v0 sz' lo hi k m ez ez';obtain⟨⟨h0,hm,hsz⟩,h⟩:=bd h;cases h;subst hsz;rw[ez] at h1;rw[ez'] at h2;have hlt0:lo+m.toNat<hi:=by omega
  obtain⟨b,off,cap,hv,hcap⟩:=h1.QV (by omega)
  obtain⟨_,g1,g2,g3⟩:=h1.gw;refine⟨.pointer (some ⟨b,off+m.toNat*sz',none⟩),w,.inl ?_,.still hr (.dk ⟨_,_,rfl⟩ g1 g2 fun sz v' xs hM=>?_)⟩
  ·simp[execOp,hop,Instr.indexAt,bu ht,hv,h2.cq,asIntOf,h0,hm,dz hn,fe]
  ·obtain⟨k1,k2⟩:=g3 sz v' xs hM;refine⟨k1,fun he=>?_⟩
   obtain⟨rfl,l1,l2,⟨rfl,_⟩|⟨b',cap',vs,t',l3,l4,l5,l6,l7⟩⟩:=k2 he
   ·exact absurd (Nat.lt_of_lt_of_le hlt0 l2) (by simp)
   rw[hv] at l4
   grind [Nat.lt_of_lt_of_le,Nat.add_mul]
 ·cases h
def zL(b off:Nat)(u:Nat->Value):∀(n i:Nat)(acc:Array Value),(∀k,k<n->w.cell? ⟨b,off+(i+k),none⟩=some (u (i+k))) ->
  (loadCellsFrom ⟨b,off,none⟩ i n acc).run P w = .ok (acc++((List.range n).map fun k=>u (i+k)).toArray) w:=by
 intro n;induction n with
 |zero=>simp[loadCellsFrom]
 |succ n ih =>
  intro i acc h;have h0:=h 0 (by simp)
  simp_all [loadCellsFrom,fe,List.range_succ_eq_map,Function.comp_def,Nat.add_comm,Nat.add_left_comm]
theorem gW(b off n:Nat)(u:Nat->Value)(h:∀k,k<n->w.cell? ⟨b,off+k,none⟩=some (u k)) :
  (loadCells ⟨b,off,none⟩ n).run P w = .ok (((List.range n).map u).toArray) w:=by
 have:=zL (P:=P) (w:=w) b off u n 0 #[] (by grind)
 grind [loadCells]
theorem oH{id b:Nat}{cs:List ae}(hr:Rel j M w)(hM:M[id]?=some (.cells cs))(hj:j id=some b):∃vs t,w.heap[b]?=some (.cells vs t (0,0))/\cs.length=vs.size /\
  (∀(q:Nat)(c:ae)(v:Value),cs[q]?=some c->vs[q]?=some v->cC j M w c v)/\∀q,w.cell? ⟨b,q,none⟩=vs[q]?:=by
 obtain⟨b',vs,t,h1,h2,h3,h4⟩:=hr.box _ _ hM
 grind [World.cell?]
theorem AB(hr:Rel j M w){id ver i off sz:Nat}{xs:List ae}{v:Value}{el:ae}(hM:M[id]?=some (.arr sz ver xs))(h:cC j M w (.dk id ver i off) v)(hel:xs[i]?=some el) :
  ∃b,v = .pointer (some ⟨b,i*sz+off,none⟩)/\∀(k:Nat)(c:ae),el.cells[off+k]?=some c->∃u,w.cell? ⟨b,i*sz+off+k,none⟩=some u/\cg w (fY j M w) c u:=by
 obtain⟨_,_,_,g⟩:=h.jX;obtain⟨g1,b,g2,g3⟩:=(g _ _ _ hM).2 rfl;obtain⟨b',vs,t,k1,k2,k3,k4,k5⟩:=hr.rI hM g2
 grind [World.cell?]
theorem Pc(hr:Rel j M w)(he:aN j M w env a){y:Operand}{z:cR}{t:TypeId}(hop:o.op = .load t y)(hg:vg P t=some false)(hz:bH y=some z)(h:bC C env M (.cY z)=some x) :
  ∃v w',ju P o a w v w'/\dn j M w x v w':=by
 simp only[bC] at h;have h1:=aZ he hz;split at h
 ·rename_i id off e;rw[e] at h1;obtain⟨b,_,_,hj,hv⟩:=h1.ic;rw[cf] at h;split at h
  ·rename_i cs hM;obtain⟨c,hc,h⟩:=az h;cases h;rw[cf] at hc;obtain⟨vs,t0,hw,hl,hcs,hcell⟩:=oH hr hM hj;have hlt:=aq hc;have hu:vs[off]?=some (vs[off]'(by omega)):=Array.getElem?_eq_getElem (by omega)
   refine⟨_,w,.inl ?_,.still hr (hcs _ c _ hc hu)⟩;simp[execOp,hop,Instr.loadAt,Instr.sureAddr,hv,loadVar,eM hg,hcell,hu]
  grind
 ·rename_i cs e;rw[e] at h1;obtain⟨b,off,vs,hv,hc⟩:=h1.lL;obtain⟨c,hc0,h⟩:=az h;cases h;rw[cf] at hc0;obtain⟨h2,_,h3⟩:=hc 0 c hc0;refine⟨_,w,.inl ?_,.still hr (.plain h3)⟩;simp_all [execOp,Instr.loadAt,Instr.sureAddr,loadVar,eM]
 ·rename_i id ver i off e;rw[e] at h1;rw[cf] at h;split at h
  ·rename_i sz v0 xs hM;split at h
   ·rename_i hv0;subst hv0;obtain⟨el,hel,h⟩:=az h;obtain⟨c,hc,h⟩:=az h;cases h;rw[cf] at hc;obtain⟨b,hv,hcell⟩:=AB hr hM h1 hel;obtain⟨u,l1,l2⟩:=hcell 0 c (by omega)
    refine⟨u,w,.inl ?_,.still hr (.plain l2)⟩;simp_all [execOp,Instr.loadAt,Instr.sureAddr,loadVar,eM]
   grind
  ·cases h
 grind
theorem Pd(hr:Rel j M w)(he:aN j M w env a){y:Operand}{z:cR}{t:TypeId}{n:Nat}(hop:o.op = .load t y)(hg:vg P t=some true)(hn:iQ P t=some n)(hz:bH y=some z)
  (h:bC C env M (.eT n z)=some x):∃v w',ju P o a w v w'/\dn j M w x v w':=by
 simp only[bC] at h;have h1:=aZ he hz;split at h
 ·rename_i id off e;rw[e] at h1;obtain⟨b,_,_,hj,hv⟩:=h1.ic;rw[cf] at h;split at h
  ·rename_i cs hM;split at h
   ·rename_i hle;cases h;obtain⟨vs,t0,hw,hl,hcs,hcell⟩:=oH hr hM hj
    have hrun:=gW (P:=P) (w:=w) b off n (fun k=>(vs[off+k]?).getD undef) fun k hk=>by
     rw[hcell,Array.getElem?_eq_getElem (by omega)]; simp
    refine⟨_,w,.inl (by simp[execOp,hop,Instr.loadAt,Instr.sureAddr,hv,loadVar,eM hg,dz hn,hrun]; rfl),.still hr (.agg (by grind) fun p c u hc hu=>?_)⟩
    grind
   ·cases h
  ·cases h
 ·rename_i cs e;split at h
  ·rename_i hle;cases h;rw[e] at h1;obtain⟨b,off,vs,hv,hc⟩:=h1.lL;have hrun:=gW (P:=P) (w:=w) b off n vs fun k hk=>(hc k _ (List.getElem?_eq_getElem (by omega))).1
   refine⟨_,w,.inl (by simp[execOp,hop,Instr.loadAt,Instr.sureAddr,hv,loadVar,eM hg,dz hn,hrun]; rfl),.still hr (.agg (by simp; omega) fun p c u hc' hu=>?_)⟩
   have hp:p<n:=by have:=aq hc'; simp_all
   rw[List.getElem?_take_of_lt hp] at hc';have hu':u=vs p:=by simp_all
   subst hu';exact .plain (hc p c hc').2.2
  ·cases h
 ·rename_i id ver i off e;rw[e] at h1;rw[cf] at h;split at h
  ·rename_i sz v0 xs hM;split at h
   ·rename_i hv0;subst hv0;obtain⟨el,hel,h⟩:=az h;split at h
    ·rename_i hle;cases h;obtain⟨b,hv,hcell⟩:=AB hr hM h1 hel
     have hrun:=gW (P:=P) (w:=w) b (i*sz+off) n (fun k=>(w.cell? ⟨b,i*sz+off+k,none⟩).getD undef) fun k hk=>by
      obtain⟨u,l1,_⟩:=hcell k _ (List.getElem?_eq_getElem (by omega))
      rw[l1]; rfl
     refine⟨_,w,.inl (by simp[execOp,hop,Instr.loadAt,Instr.sureAddr,hv,loadVar,eM hg,dz hn,hrun]; rfl),.still hr (.agg (by simp; omega) fun p c u hc' hu=>?_)⟩
     have hp:p<n:=by have:=aq hc'; simp at this; omega
     rw[List.getElem?_take_of_lt hp,List.getElem?_drop] at hc';obtain⟨u',l1,l2⟩:=hcell p c hc';have hu':u=(w.cell? ⟨b,i*sz+off+p,none⟩).getD undef:=by simp_all
     rw[l1] at hu';subst hu';exact .plain l2
    ·cases h
   ·cases h
  ·cases h
 ·cases h
end
section
variable {P:Program} {C:bL} {o:Oper} {env:Env} {M:aj} {j:J} {w:World} {a:Act} {x:ae×aj}
def mR{y:ae}{v:Value}{cs:List ae}(h:cC j M w y v)(hc:y.cells?=some cs):RC j M w cs v.cells:=by
 cases y<;>simp only[ae.cells?,Option.some.injEq,reduceCtorEq] at hc
 case agg cs' =>
  subst hc;obtain⟨vs,rfl,h1,h2⟩:=h.fB;exact⟨h1,h2⟩
 case raw u =>
  cases h with
  |plain h =>
   cases h with
   |raw _ h1 =>
    cases v<;>simp at hc<;>subst hc <;>
     exact⟨rfl,fun i c v hc hv=>by
      cases i with
      |zero=>simp[Value.cells] at hc hv; subst hc; subst hv; exact .plain (.raw _ h1)
      |succ i=>simp at hc⟩
 all_goals
  subst hc
  have hv:v.cells = #[v]:=by
   first
    |(have:=h.dy; subst this; rfl)
    |(have:=h.cq; subst this; rfl)
    |(have:=h.eb; subst this; rfl)
    |(obtain⟨A,cap,b,off,sz,vs,e,_⟩:=h.bw.bw; subst e; rfl)
    |(obtain⟨b,_,_,_,e⟩:=h.ic; subst e; rfl)
    |(obtain⟨b,off,vs,e,_⟩:=h.lL; subst e; rfl)
    |(obtain⟨vs,e,_⟩:=h.jY; subst e; rfl)
    |(obtain⟨b,_,_,e⟩:=h.nh; subst e; rfl)
    |(obtain⟨b,_,_,e⟩:=h.wB; subst e; rfl)
    |(obtain⟨b,es,cl,e,_⟩:=h.Ba; subst e; rfl)
    |(obtain⟨_,_,e⟩:=h.rH; subst e; rfl)
    |(obtain⟨⟨_,_,e⟩,_⟩:=h.jX; subst e; rfl)
    |(obtain⟨_,e,_⟩:=h.zO; subst e; rfl)
    |(obtain⟨_,_,_,e⟩:=h.BN; subst e; rfl)
  rw[hv]
  exact⟨rfl,fun i c u hc hu=>by
   cases i with
   |zero=>simp at hc hu; subst hc; subst hu; exact h
   |succ i=>simp at hc⟩
theorem vU{c:ae}{v:Value}(h:cC j M w c v)(hc:c.dp=true):v.oneCell'=true:=by
 cases c<;>simp only[ae.dp,Bool.false_eq_true] at hc
 case bool=>have:=h.dy; subst this; rfl
 case int=>have:=h.cq; subst this; rfl
 case str=>have:=h.eb; subst this; rfl
 case slice=>obtain⟨A,cap,b,off,sz,vs,e,_⟩:=h.bw.bw; subst e; rfl
 case ptr=>obtain⟨b,_,_,_,e⟩:=h.ic; subst e; rfl
 case dq=>obtain⟨b,off,vs,e,_⟩:=h.lL; subst e; rfl
 case func=>obtain⟨vs,e,_⟩:=h.jY; subst e; rfl
 case cU=>obtain⟨b,_,_,e⟩:=h.nh; subst e; rfl
 case dD=>obtain⟨b,_,_,e⟩:=h.wB; subst e; rfl
 case dI=>obtain⟨b,es,cl,e,_⟩:=h.Ba; subst e; rfl
 case aW=>obtain⟨_,_,e⟩:=h.rH; subst e; rfl
 case dk=>obtain⟨⟨_,_,e⟩,_⟩:=h.jX; subst e; rfl
 case iM=>obtain⟨_,e,_⟩:=h.zO; subst e; rfl
 case dU=>obtain⟨_,_,_,e⟩:=h.BN; subst e; rfl
 case raw u =>
  cases h with
  |plain h=>cases h<;>grind
theorem zP(hr:Rel j M w){cs:List ae}{vs:Array Value}(hc:RC j M w cs vs)(t:TypeId) :
  dn j M w (.ptr M.length 0,M++[.cells cs]) (.pointer (some ⟨w.heap.size,0,none⟩)) { w with heap:=w.heap.push (.cells vs t (0,0)) }:=by
 have q:Quiet w { w with heap:=w.heap.push (.cells vs t (0,0)) }:=⟨by simp,rfl,rfl,rfl⟩
 have hb:∀b,b<w.heap.size->({ w with heap:=w.heap.push (.cells vs t (0,0)) }:World).heap[b]?=w.heap[b]?:=fun b hb=>by
  grind
 have hn:({ w with heap:=w.heap.push (.cells vs t (0,0)) }:World).heap[w.heap.size]?=some (.cells vs t (0,0)):=by simp
 refine⟨cH j _ (some w.heap.size),hr.push (fun b h=>?_) q hb (fun _=>?_) (fun sz n b h=>by grind),Ext.push (fun b h=>?_) q hb,.ptr (by simp) ⟨cs,by simp⟩ (by simp[cH])⟩
 ·grind
 ·exact⟨_,rfl,fun j' M' hx=>⟨vs,t,hn,hc.1,fun i c v h1 h2=>(hc.2 i c v h1 h2).mono hx⟩⟩
 grind
def Za(hr:Rel j M w)(he:aN j M w env a){y:Operand}{z:cR}{t:TypeId}(hop:o.op = .box t y)(hz:bH y=some z)(h:bC C env M (.box z)=some x) :
  ∃v w',ju P o a w v w'/\dn j M w x v w':=by
 obtain⟨cs,hc,h⟩:=az h;cases h;exact⟨_,_,.inl (by simp_all [execOp,Instr.box,newVar,newRow]),zP hr (mR (aZ he hz) hc) t⟩
theorem FN(hr:Rel j M w){t:TypeId}{i:TypeInfo}{zv:Value}{l:List ae}(hop:o.op = .alloc t)(hi:P.info? t=some i)(hzv:i.zero=some zv)(hl:kv zv.cells.toList=some l)
  (h:bC C env M (.iB l)=some x):∃v w',ju P o a w v w'/\dn j M w x v w':=by
 cases h;obtain⟨h1,h2⟩:=iz hl;refine⟨_,_,.inl (by simp[execOp,hop,Instr.alloc,zeroValue,gZ hi,hzv]; rfl),zP hr ⟨by omega,fun i c v hc hv=>h2 i c v hc (by grind)⟩ t⟩
theorem Ze(hr:Rel j M w)(he:aN j M w env a){y:Operand}{n:Nat}(hop:o.op = .assign y)(hz:bH y=some (.ep (.slice .c0 [])))(h:bC C env M (.own n (.ep (.slice .c0 [])))=some x) :
  ∃v w',ju P o a w v w'/\dn j M w x v w':=by
 cases h;have h1:=aZ he hz;have q:Quiet w w:=⟨Nat.le_refl _,rfl,rfl,rfl⟩
 obtain⟨A,hA⟩:∃A,a.eval y = .slice A 0 0:=by
  generalize a.eval y=v at h1;cases h1 with
  |plain h=>cases h
  |c0 A=>simp
 refine⟨a.eval y,w,.inl (by simp_all [execOp]),cH j _ none,hr.push (fun b h=>by grind) q (fun _ _=>rfl) (fun h=>by cases h) (fun sz n b h h'=>by grind),Ext.push (fun b h=>by grind) q (fun _ _=>rfl),?_⟩
 rw[hA];exact .own (sz:=n) (by simp) (by simp) (cg.nil _ _ _) fun _ => .inl ⟨by simp[cH],rfl,A,rfl⟩
def gR(w:World)(b:Nat):Nat->List Value->World
 |_,[]=>w
 |off,v::r=>gR (w.setCell ⟨b,off,none⟩ v) b (off+1) r
def fc{b:Nat}{t:TypeId}:∀(l:List Value)(w:World)(off:Nat)(vs:Array Value),w.heap[b]?=some (.cells vs t (0,0))->off+l.length<=vs.size ->
  (gR w b off l).heap.size=w.heap.size/\(gR w b off l).os=w.os/\(gR w b off l).tape=w.tape/\(gR w b off l).output=w.output /\
  (∀b',b'≠b->(gR w b off l).heap[b']?=w.heap[b']?) /\
  ∃vs',(gR w b off l).heap[b]?=some (.cells vs' t (0,0))/\vs'.size=vs.size/\(∀p,p<off\/off+l.length<=p->vs'[p]?=vs[p]?)/\∀p,p<l.length->vs'[off+p]?=l[p]?:=by
 intro l;induction l with
 |nil=>intro w off vs h _; exact⟨rfl,rfl,rfl,rfl,fun _ _=>rfl,vs,h,rfl,fun _ _=>rfl,fun p hp=>by simp at hp⟩
 |cons v r ih =>
  intro w off vs h hle;simp only[List.length_cons] at hle
  have hs:(w.setCell ⟨b,off,none⟩ v).heap[b]?=some (.cells (vs.setIfInBounds off v) t (0,0)):=by
   simp[World.setCell,Array.getElem?_modify,h]
  obtain⟨h1,h2,h3,h4,h5,vs',h6,h7,h8,h9⟩:=ih (w.setCell ⟨b,off,none⟩ v) (off+1) (vs.setIfInBounds off v) hs (by simp; omega)
  refine⟨by simp only[gR]; rw[h1]; simp[World.setCell],by simp only[gR]; rw[h2]; rfl,by simp only[gR]; rw[h3]; rfl,by simp only[gR]; rw[h4]; rfl,fun b' hb'=>?_,vs',h6,by rw[h7]; simp,fun p hp=>?_,fun p hp=>?_⟩
  ·simp only[gR];rw[h5 b' hb'];simp[World.setCell,Array.getElem?_modify,Ne.symm hb']
  ·simp only[List.length_cons] at hp;rw[h8 p (by omega),Array.getElem?_setIfInBounds_ne (by omega)]
  ·cases p with
   |zero =>
    have:vs'[off]?=(vs.setIfInBounds off v)[off]?:=h8 off (by omega)
    rw[Nat.add_zero,this];simp[Array.getElem?_setIfInBounds_self];omega
   |succ p =>
    have:=h9 p (by simpa using hp)
    rw[show off+(p+1)=off+1+p by omega,this]
    simp
def fL{b:Nat}{t:TypeId}:∀(l:List Value)(w:World)(off i:Nat)(vs:Array Value),w.heap[b]?=some (.cells vs t (0,0))->off+i+l.length<=vs.size->(∀v,v∈l->v.oneCell'=true) ->
  (storeCells ⟨b,off,none⟩ l i).run P w = .ok () (gR w b (off+i) l):=by
 intro l;induction l with
 |nil=>simp[storeCells,gR]
 |cons v r ih =>
  intro w off i vs h hle hv;simp only[List.length_cons] at hle
  have hs:(w.setCell ⟨b,off+i,none⟩ v).heap[b]?=some (.cells (vs.setIfInBounds (off+i) v) t (0,0)):=by
   simp[World.setCell,Array.getElem?_modify,h]
  have hc:w.cell? ⟨b,off+i,none⟩=some (vs[off+i]'(by omega)):=by
   simp[World.cell?,h]
  have hf:w.frozen? ⟨b,off+i,none⟩=false:=by simp[World.frozen?,h]
  have hi:=ih _ off (i+1) _ hs (by simp; omega) (fun u hu=>hv u (List.mem_cons_of_mem _ hu))
  simp[storeCells,fe,run_store P w _ v .plain (hv v _),hc,hf,if_false,Result.andThen_ok,hi];rfl
theorem iY{cs new:List ae}{off:Nat}(h:off+new.length<=cs.length)(p:Nat) :
  (fK cs off new)[p]?=if off<=p/\p<off+new.length then new[p-off]? else cs[p]?:=by
 grind [fK]
theorem mq{cs new:List ae}{off:Nat}(h:off+new.length<=cs.length):(fK cs off new).length=cs.length:=by
 grind [fK]
theorem sR{c:ae}{v:Value}(h:cC j M w c v)(hp:c.shut.plainCell=true):cg w (fY j M w) c.shut v:=by
 cases c<;>simp[ae.shut,ae.plainCell] at hp ⊢
 case bool=>have:=h.dy; subst this; exact .bool _
 case int=>have:=h.cq; subst this; exact .int _ _
 case str=>have:=h.eb; subst this; exact .str _
 case slice=>exact h.bw
 case raw=>cases h<;>grind
theorem uW{c:ae}(h:c.shut.plainCell=true):c.dp=true:=by
 cases c<;>simp[ae.shut,ae.plainCell] at h<;>try rfl
 rename_i v;cases v<;>first|rfl|grind
def zY{c:ae}(h:c.plainCell=true):c.cells=[c]:=by
 cases c<;>first|rfl|cases h
theorem w7{e:ae}{off:Nat}{new:List ae}(h:off+new.length<=e.cells.length)(hp:new.all ae.plainCell=true):(putCells e off new).cells=fK e.cells off new:=by
 by_cases hag:∃cs,e = .agg cs
 ·obtain⟨cs,rfl⟩:=hag;cases new<;>rfl
 ·have h1:e.cells=[e]:=by cases e<;>first|rfl|grind
  rw[h1] at h ⊢
  match new,h,hp with
  | [],h,_ =>
   have:putCells e off []=e:=by cases e<;>first|rfl|grind
   rw[this,h1]
   match off,h with
   |0,_=>rfl
   |1,_=>rfl
  | [c],h,hp =>
   have:putCells e off [c]=c:=by cases e<;>first|rfl|grind
   have h0:off=0:=by grind
   subst h0;rw[this,zY (by grind)]
   rfl
  |_::_::_,h,_=>grind
theorem wV(hr:Rel j M w)(he:aN j M w env a){y y':Operand}{z z':cR}{t:TypeId}{n:Nat}(hop:o.op = .store t y y')(hn:iQ P t=some n)(hz:bH y=some z)(hz':bH y'=some z')
  (h:bC C env M (.store n z z')=some x):∃v w',ju P o a w v w'/\dn j M w x v w':=by
 simp only[bC] at h;have h1:=aZ he hz;have h2:=aZ he hz';split at h
 ·rename_i id off e;rw[e] at h1;obtain⟨b,_,_,hj,hv⟩:=h1.ic;rw[cf] at h;split at h
  ·rename_i cs hM;obtain⟨new,dw,h⟩:=az h;split at h
   ·rename_i hcond;obtain⟨c1,c2,c3⟩:=hcond;cases h;obtain⟨vs,t0,hw,hl,hcs,hcell⟩:=oH hr hM hj;obtain⟨n1,n2⟩:=mR h2 dw
    have hone:∀v,v∈(a.eval y').cells.toList->v.oneCell'=true:=by
     intro v hv;obtain⟨p,hp,rfl⟩:=List.getElem_of_mem hv;have hp':p<(a.eval y').cells.size:=by simpa using hp
     have hpl:p<new.length:=by omega
     have hr':=n2 p _ _ (List.getElem?_eq_getElem hpl) (Array.getElem?_eq_getElem hp');have:=vU hr' (List.all_eq_true.1 c3 _ (List.getElem_mem hpl));simpa using this
    have hrun:=fL (P:=P) (a.eval y').cells.toList w off 0 vs hw (by simp; omega) hone
    obtain⟨s1,s2,s3,s4,s5,vs',s6,s7,s8,s9⟩:=fc (a.eval y').cells.toList w off vs hw (by simp; omega)
    have q:Quiet w (gR w b off (a.eval y').cells.toList):=⟨by omega,s2,s3,s4⟩
    have hle:off+new.length<=cs.length:=by omega
    rw[cG];refine⟨undef,gR w b off (a.eval y').cells.toList,.inr ⟨?_,rfl⟩,j,Rel.store hM rfl rfl hj hr q (fun b' hb' _=>s5 b' hb') (fun vs0 t1 fr h=>by rw[hw] at h; grind) (fun j' M' hx=>⟨vs',t0,s6,by rw[mq hle]; omega,fun p c v hc hv'=>cC.mono hx ?_⟩),Ext.store hM rfl rfl hj hr q (fun b' hb' _=>s5 b' hb') (fun vs0 t1 fr h=>by rw[hw] at h; grind),.any _⟩
    ·simp_all [Nat.add_zero,execOp,Instr.storeAt,Instr.sureAddr,storeVar,dz]
    ·rw[iY hle] at hc;split at hc
     ·rename_i hp;have h9:=s9 (p-off) (by simp; omega)
      rw[show off+(p-off)=p by omega,hv'] at h9
      exact n2 (p-off) c v hc (by simpa using h9.symm)
     grind
   ·cases h
  ·cases h
 ·rename_i id ver i off e;rw[e] at h1;rw[cf] at h;split at h
  ·rename_i sz v0 xs hM;obtain⟨new,dw,h⟩:=az h;obtain⟨el,hel,h⟩:=az h;split at h
   ·rename_i hcond;obtain⟨hv0,c1,c2,c3⟩:=hcond;subst hv0;cases h;obtain⟨_,hid,_,hv⟩:=h1.jX;obtain⟨hi,b,hj,hv⟩:=(hv sz v0 xs hM).2 rfl;obtain⟨b',vs,t0,k1,hw,k3,k4,k5⟩:=hr.rI hM hj;rw[hj] at k1; cases k1;have hsz:el.cells.length=sz:=k4 el (List.mem_of_getElem? hel)
    have hbd:i*sz+sz<=vs.size:=by
     refine Nat.le_trans ?_ k3
     calc i*sz+sz=(i+1)*sz:=by rw[Nat.add_mul]; omega
      _<=xs.length*sz:=Nat.mul_le_mul_right _ hi
    obtain⟨n1,n2⟩:=mR h2 dw
    have hpl:∀(p:Nat)(c:ae),new[p]?=some c->c.shut.plainCell=true:=fun p c hc=>by
     rw[List.all_map,List.all_eq_true] at c3;exact c3 c (List.mem_of_getElem? hc)
    have hone:∀v,v∈(a.eval y').cells.toList->v.oneCell'=true:=by
     intro v hv;obtain⟨p,hp,rfl⟩:=List.getElem_of_mem hv;have hp':p<(a.eval y').cells.size:=by simpa using hp
     have hpl':p<new.length:=by omega
     have hr':=n2 p _ _ (List.getElem?_eq_getElem hpl') (Array.getElem?_eq_getElem hp');have:=vU hr' (uW (hpl p _ (List.getElem?_eq_getElem hpl')));simpa using this
    have hrun:=fL (P:=P) (a.eval y').cells.toList w (i*sz+off) 0 vs hw (by simp; omega) hone
    obtain⟨s1,s2,s3,s4,s5,vs',s6,s7,s8,s9⟩:=fc (a.eval y').cells.toList w (i*sz+off) vs hw (by simp; omega)
    have q:Quiet w (gR w b (i*sz+off) (a.eval y').cells.toList):=⟨by omega,s2,s3,s4⟩
    have hle:off+(new.map ae.shut).length<=el.cells.length:=by simp; omega
    have hput:=w7 hle c3
    have hw':∀vs0 t1,w.heap[b]?=some (.cells vs0 t1 (0,0))->∃vs1,(gR w b (i*sz+off) (a.eval y').cells.toList).heap[b]?=some (.cells vs1 t1 (0,0))/\vs1.size=vs0.size:=fun vs0 t1 h=>by
     rw[hw] at h; grind
    rw[cG,cG];refine⟨undef,gR w b (i*sz+off) (a.eval y').cells.toList,.inr ⟨?_,rfl⟩,j,Rel.xN hM hj hr q (fun b' hb' _=>s5 b' hb') hw' (Nat.le_refl _) (fun _=>by simp) (fun j' M' hx=>⟨vs',t0,s6,by simp; omega,fun x hx'=>?_,fun p x k c hp hk=>?_⟩),Ext.xN hM hj hr q (fun b' hb' _=>s5 b' hb') hw' (Nat.le_refl _) (fun _=>by simp),.any _⟩
    ·simp only[Nat.add_zero] at hrun;simp[execOp,hop,Instr.storeAt,Instr.sureAddr,hv,storeVar,dz hn,show(a.eval y').cells.size=n by omega,hrun]
    ·rcases List.mem_or_eq_of_mem_set hx' with hx'|rfl
     ·exact k4 x hx'
     ·rw[hput,mq hle,hsz]
    ·have hlen:(a.eval y').cells.toList.length=n:=by simp; omega
     by_cases hpi:i=p
     ·subst hpi;rw[List.getElem?_set_self hi] at hp;cases hp;rw[hput,iY hle] at hk;split at hk
      ·rename_i hin;simp only[List.length_map] at hin;rw[List.getElem?_map,Option.map_eq_some_iff] at hk;obtain⟨c0,hc0,rfl⟩:=hk;have h9:=s9 (k-off) (by omega)
       rw[show i*sz+off+(k-off)=i*sz+k by omega] at h9
       have hlt:k-off<(a.eval y').cells.size:=by omega
       have hu:(a.eval y').cells[k-off]?=some (a.eval y').cells[k-off]:=Array.getElem?_eq_getElem hlt;exact⟨_,by rw[h9]; simp,(sR (n2 _ c0 _ hc0 hu) (hpl _ c0 hc0)).mono hx.cV⟩
      ·rename_i hin;simp only[List.length_map] at hin;obtain⟨u,u1,u2⟩:=k5 i el k c hel hk;exact⟨u,by rw[s8 _ (by omega)]; exact u1,u2.mono hx.cV⟩
     ·rw[List.getElem?_set_ne hpi] at hp;obtain⟨u,u1,u2⟩:=k5 p x k c hp hk;have hk':k<sz:=by rw[<-k4 x (List.mem_of_getElem? hp)]; exact aq hk
      refine⟨u,(s8 _ ?_).trans u1,u2.mono hx.cV⟩;rcases Nat.lt_or_ge p i with hlt|hge
      ·left;have:=Nat.mul_le_mul_right sz (show p+1<=i from hlt)
       rw[Nat.add_mul] at this;omega
      ·right;have:=Nat.mul_le_mul_right sz (show i+1<=p by omega)
       rw[Nat.add_mul] at this;omega
   ·cases h
  ·cases h
 ·cases h
end
def P0(off:Nat):∀(l:List Value)(k:Nat)(cells:Array Value),
  ((l.zipIdx k).foldl (fun(cs:Array Value) (x:Value×Nat)=>cs.setIfInBounds (off+x.2) x.1) cells).size=cells.size /\
  ∀p,((l.zipIdx k).foldl (fun(cs:Array Value) (x:Value×Nat)=>cs.setIfInBounds (off+x.2) x.1) cells)[p]? =
   if off+k<=p/\p<off+k+l.length/\p<cells.size then l[p-(off+k)]? else cells[p]?:=by
 intro l;induction l with
 |nil=>intro k cells; exact⟨rfl,fun p=>by simp; omega⟩
 |cons v r ih =>
  intro k cells;rw[List.zipIdx_cons,List.foldl_cons];obtain⟨h1,h2⟩:=ih (k+1) (cells.setIfInBounds (off+k) v);refine⟨by rw[h1]; simp,fun p=>?_⟩
  rw[h2];simp only[Array.size_setIfInBounds,List.length_cons]
  by_cases c1:off+(k+1)<=p/\p<off+(k+1)+r.length/\p<cells.size
  ·rw[if_pos c1,if_pos (by omega),show p-(off+k)=(p-(off+(k+1)))+1 by omega]
   simp
  ·rw[if_neg c1]
   by_cases c2:p=off+k/\p<cells.size
   ·obtain⟨rfl,hlt⟩:=c2;rw[if_pos (by omega)]
    simp[Array.getElem?_setIfInBounds_self,hlt]
   ·rw[if_neg (by omega)]
    by_cases c3:p=off+k
    ·have:¬p<cells.size:=fun h=>c2 ⟨c3,h⟩
     rw[Array.getElem?_eq_none (by simp; omega),Array.getElem?_eq_none (by omega)]
    ·rw[Array.getElem?_setIfInBounds_ne (by omega)]
def putRow(cells:Array Value)(off:Nat)(vs:Array Value):Array Value:=vs.zipIdx.foldl (fun cs (c,k)=>cs.setIfInBounds (off+k) c) cells
def uU(cells:Array Value)(off:Nat)(vs:Array Value):(putRow cells off vs).size=cells.size /\
  ∀p,(putRow cells off vs)[p]?=if off<=p/\p<off+vs.size/\p<cells.size then vs[p-off]? else cells[p]?:=by
 have h:=P0 off vs.toList 0 cells
 have e:putRow cells off vs=(vs.toList.zipIdx 0).foldl (fun(cs:Array Value) (x:Value×Nat)=>cs.setIfInBounds (off+x.2) x.1) cells:=by
  unfold putRow;rw[<-Array.foldl_toList];simp
 rw[e];exact⟨h.1,fun p=>by rw[h.2 p]; simp⟩
section
variable {P:Program} {C:bL} {o:Oper} {env:Env} {M:aj} {j:J} {w:World} {a:Act} {x:ae×aj}
def RC.write{cs new:List ae}{cells vs:Array Value}{off:Nat}(h:RC j M w cs cells)(hn:RC j M w new vs)(hle:off+new.length<=cs.length):RC j M w (fK cs off new) (putRow cells off vs):=by
 obtain⟨p1,p2⟩:=uU cells off vs;have h1:=h.1;have h2:=hn.1;refine⟨by rw[mq hle,p1]; exact h1,fun i c v hc hv=>?_⟩
 rw[iY hle] at hc;rw[p2] at hv
 have hi:i<cells.size:=by
  rcases Nat.lt_or_ge i cells.size with hi|hi
  ·exact hi
  ·rw[if_neg (by omega),Array.getElem?_eq_none hi] at hv; cases hv
 split at hc
 ·rename_i hp;rw[if_pos (by omega)] at hv
  exact hn.2 _ c v hc hv
 ·rename_i hp;rw[if_neg (by omega)] at hv
  exact h.2 _ c v hc hv
def OT{α β:Type}{g:α->Sem β}{f:α->β}:∀(l:List α),(∀x,x∈l->(g x).run P w = .ok (f x) w)->(l.mapM g).run P w = .ok (l.map f) w:=by
 intro l;induction l with
 |nil=>intro _; simp
 |cons y r ih =>
  intro h;simp[List.mapM_cons,h y (by simp),ih fun x hx=>h x (by simp[hx])]
def A7{fs:Array Field}(he:aN j M w env a)(hfs:∀f,f∈fs.toList->(P.info? f.type).isSome=true):∀ {parts:List (Nat×Operand)} {ps:List (Nat×Nat×cR)} {cs cs':List ae} {cells:Array Value},
  tn P fs parts=some ps->eZ env cs ps=some cs'->RC j M w cs cells ->
  ∃cells',Instr.fill (fun i=>(fs.map fun f=>(f.offset,P.cellsOf f.type))[i]?) cells (parts.map fun p=>(p.1,a.eval p.2))=some cells'/\RC j M w cs' cells':=by
 intro parts;induction parts with
 |nil =>
  intro ps cs cs' cells h1 h2 h3;simp[tn] at h1; subst h1;simp[eZ] at h2; subst h2;exact⟨cells,rfl,h3⟩
 |cons p r ih =>
  intro ps cs cs' cells h1 h2 h3;obtain⟨i,y⟩:=p;simp only[tn] at h1;obtain⟨f,hf,h1⟩:=aw h1;obtain⟨n,hn,h1⟩:=aw h1;obtain⟨z,hz,h1⟩:=aw h1;obtain⟨l,hl,h1⟩:=aw h1;cases h1;simp only[eZ] at h2;obtain⟨new,dw,h2⟩:=az h2;split at h2
  ·rename_i hc;obtain⟨c1,c2⟩:=hc;have hrc:=mR (aZ he hz) dw;obtain⟨inf,hinf,hsz⟩:=xh hn;have hco:P.cellsOf f.type=n:=by simp[Program.cellsOf,hinf,hsz]
   obtain⟨cells',e1,e2⟩:=ih hl h2 (h3.write (off:=f.offset) hrc (by omega))
   refine⟨cells',?_,e2⟩;have hs1:=hrc.1;have hs2:=h3.1;have hpl:(fs.map fun f=>(f.offset,P.cellsOf f.type))[i]?=some (f.offset,n):=by simp[hf,hco]
   simp only[List.map_cons,Instr.fill,hpl];rw[if_neg (by simp; omega)]
   exact e1
  ·cases h2
def O3(hr:Rel j M w)(he:aN j M w env a){t:TypeId}{parts:Array (Nat×Operand)}{fs:Array Field}{i:TypeInfo}{zv:Value}{l:List ae}{ps:List (Nat×Nat×cR)}(hop:o.op = .build t parts)
  (ht:P.underlying t=some (.struct fs)) (hi:P.info? t=some i) (hzv:i.zero=some zv) (hl:kv zv.cells.toList=some l) (hps:tn P fs parts.toList=some ps) (hfs:fs.all (fun f=>(P.info? f.type).isSome)=true)
  (h:bC C env M (.build l ps)=some x):∃v w',ju P o a w v w'/\dn j M w x v w':=by
 simp only[bC] at h;obtain⟨cs,hcs,h⟩:=az h;cases h;obtain⟨h1,h2⟩:=iz (j:=j) (M:=M) (w:=w) hl
 have hfs':∀f,f∈fs.toList->(P.info? f.type).isSome=true:=fun f hf=>by
  have:=Array.all_eq_true'.1 hfs f (by simpa using hf)
  simpa using this
 obtain⟨cells',e1,e2⟩:=A7 (P:=P) he hfs' hps hcs (cells:=zv.cells) ⟨by simpa using h1,fun i c v hc hv=>h2 i c v hc (by simpa using hv)⟩
 have hmap:(fs.mapM fun f=>do pure (f.offset,<-sizeOf f.type):Sem _).run P w = .ok (fs.map fun f=>(f.offset,P.cellsOf f.type)) w:=by
  rw[Array.mapM_eq_mapM_toList]
  have hm:=OT (P:=P) (w:=w) (g:=fun f:Field=>(do pure (f.offset,<-sizeOf f.type):Sem _)) (f:=fun f:Field=>(f.offset,P.cellsOf f.type)) fs.toList fun f hf=>by
   obtain⟨inf,hinf⟩:=Option.isSome_iff_exists.1 (hfs' f hf);simp[sizeOf,gZ hinf,Program.cellsOf,hinf]
  rw[Sem.run_map,hm,<-Array.toList_map];simp only[Result.andThen_ok,Array.toArray_toList]
 refine⟨.agg cells',w,.inl ?_,.still hr (.agg e2.1 e2.2)⟩;have e1':Instr.fill (fun i=>(fs.map fun f=>(f.offset,P.cellsOf f.type))[i]?) zv.cells (parts.map fun p=>(p.1,a.eval p.2)).toList=some cells':=by simpa using e1
 simp only[execOp,hop,Instr.build,zeroValue,Sem.run_bind,gZ hi,Result.andThen_ok,hzv,Sem.run_pure,bu ht,hmap];simp only[e1',Sem.run_pure,Result.andThen_ok]
def uV{y:ae}{v:Value}(h:cC j M w y v)(hp:y.cu.plain=true):y.cu.cells.length=v.cells.size /\
  ∀(k:Nat)(c:ae)(u:Value),y.cu.cells[k]?=some c->v.cells[k]?=some u->cg w (fY j M w) c u:=by
 by_cases hag:∃cs,y = .agg cs
 ·obtain⟨cs,rfl⟩:=hag;obtain⟨vs,rfl,h1,h2⟩:=h.fB;simp only[ae.cu,ae.plain,ae.cells,Value.cells] at hp ⊢;refine⟨by simpa using h1,fun k c u hc hu=>?_⟩
  rw[List.getElem?_map,Option.map_eq_some_iff] at hc;obtain⟨c0,hc0,rfl⟩:=hc;refine sR (h2 k c0 u hc0 hu) ?_;have:=List.all_eq_true.1 hp c0.shut (List.mem_map.2 ⟨c0,List.mem_of_getElem? hc0,rfl⟩);exact this
 ·have hs:y.cu=y.shut:=by cases y<;>first|rfl|exact absurd ⟨_,rfl⟩ hag
  have hpl:y.shut.plainCell=true:=by
   rw[hs] at hp;cases y<;>first|exact hp|exact absurd ⟨_,rfl⟩ hag
  have hr:=sR h hpl;have hc1:y.shut.cells=[y.shut]:=by cases y<;>first|rfl|exact absurd ⟨_,rfl⟩ hag
  have hv1:v.cells = #[v]:=by
   cases y<;>simp only[ae.shut,ae.plainCell,Bool.false_eq_true] at hpl
   case bool=>have:=h.dy; subst this; rfl
   case int=>have:=h.cq; subst this; rfl
   case str=>have:=h.eb; subst this; rfl
   case slice=>obtain⟨A,cap,b,off,sz,vs,e,_⟩:=h.bw.bw; subst e; rfl
   case raw=>cases h with|plain h=>cases h; cases v<;>simp_all [Value.cells]
  rw[hs,hc1,hv1];refine⟨rfl,fun k c u hc hu=>?_⟩
  cases k with
  |zero=>simp at hc hu; subst hc; subst hu; exact hr
  |succ k=>simp at hc
def Jp{sz:Nat}:∀(l:List Value)(k:Nat)(cells:Array Value),(∀v,v∈l->v.cells.size=sz)->(k+l.length)*sz<=cells.size ->
  ∃cells',Instr.fill (fun i=>some (i*sz,sz)) cells ((l.zipIdx k).map fun x=>(x.2,x.1))=some cells'/\cells'.size=cells.size/\(∀p,p<k*sz->cells'[p]?=cells[p]?) /\
   ∀i v q,l[i]?=some v->q<sz->cells'[(k+i)*sz+q]?=v.cells[q]?:=by
 intro l;induction l with
 |nil=>intro k cells _ _; exact⟨cells,rfl,rfl,fun _ _=>rfl,fun i v q h=>by simp at h⟩
 |cons v r ih =>
  intro k cells hv hle;have hv0:=hv v (by simp)
  have hk1:(k+1)*sz=k*sz+sz:=Nat.succ_mul k sz
  have hle':k*sz+sz<=cells.size:=by
   have:(k+1)*sz<=(k+(r.length+1))*sz:=Nat.mul_le_mul_right _ (by omega)
   simp only[List.length_cons] at hle;omega
  obtain⟨p1,p2⟩:=uU cells (k*sz) v.cells;obtain⟨cells',e1,e2,e3,e4⟩:=ih (k+1) (putRow cells (k*sz) v.cells) (fun u hu=>hv u (by simp[hu])) (by rw[p1]; simp only[List.length_cons] at hle; rw[show k+1+r.length=k+(r.length+1) by omega]; exact hle)
  refine⟨cells',?_,by rw[e2,p1],fun p hp=>?_,fun i u q hi hq=>?_⟩
  ·rw[List.zipIdx_cons,List.map_cons];simp only[Instr.fill];rw[if_neg (by simp; omega)]
   exact e1
  ·rw[e3 p (by omega),p2,if_neg (by omega)]
  ·cases i with
   |zero =>
    simp at hi; subst hi;rw[Nat.add_zero,e3 _ (by omega),p2,if_pos (by omega)]
    congr 1;omega
   |succ i =>
    have:=e4 i u q (by simpa using hi) hq
    rw[show k+1+i=k+(i+1) by omega] at this
    exact this
def xQ:∀ {l:List (Nat×Operand)} {k:Nat} {zs:List cR},AK k l=some zs->∃ys:List Operand,l=(ys.zipIdx k).map (fun x=>(x.2,x.1))/\mQ ys=some zs
 | [],k,zs,h=>by simp[AK] at h; subst h; exact⟨[],rfl,rfl⟩
 |(i,y)::r,k,zs,h=>by
  simp only[AK] at h;split at h
  ·rename_i hi;obtain⟨z,hz,h⟩:=aw h;obtain⟨l,hl,h⟩:=aw h;cases h;obtain⟨ys,e1,e2⟩:=xQ hl;exact⟨y::ys,by rw[List.zipIdx_cons,List.map_cons,hi,e1],by simp[mQ,hz,e2]⟩
  ·cases h
def yx:∀ {zs:List cR} {sz:Nat} {l:List ae},kg env sz zs=some l->l.length=zs.length /\
  ∀(i:Nat)(y:ae)(z:cR),l[i]?=some y->zs[i]?=some z->y=(z.ev env).cu/\y.plain=true/\y.cells.length=sz
 | [],sz,l,h=>by simp[kg] at h; subst h; exact⟨rfl,fun i y z h=>by simp at h⟩
 |z::r,sz,l,h=>by
  simp only[kg] at h;split at h
  ·rename_i hc;obtain⟨l',hl,h⟩:=az h;cases h;obtain⟨h1,h2⟩:=yx hl;refine⟨by simp[h1],fun i y z' hy hz=>?_⟩
   cases i with
   |zero=>simp at hy hz; subst hy; subst hz; exact⟨rfl,hc.1,hc.2⟩
   |succ i=>exact h2 i y z' (by simpa using hy) (by simpa using hz)
  ·cases h
def ig(o:Obj):Quiet w { w with heap:=w.heap.push o }/\(∀b,b<w.heap.size->({ w with heap:=w.heap.push o }:World).heap[b]?=w.heap[b]?)/\({ w with heap:=w.heap.push o }:World).heap[w.heap.size]?=some o :=
 ⟨⟨by simp,rfl,rfl,rfl⟩,fun b hb=>by
  show(w.heap.push _)[b]?=_
  rw[Array.getElem?_push,if_neg (by omega)],by simp⟩
def yw(he:aN j M w env a){t e:TypeId}{len:Nat}{parts:Array (Nat×Operand)}{i:TypeInfo}{zs:List cR}{l:List ae}(hop:o.op = .buildSlice t len parts)(ht:P.underlying t=some (.slice e))
  (hi:P.info? e=some i) (hzs:AK 0 parts.toList=some zs) (hlen:zs.length=len) (hroom:len*i.size<=2 ^ 24) (hzero:(i.zero.map fun z=>z.cells.size)=some i.size)
  (hl:kg env i.size zs=some l):l.length=len/\wid l i.size/\∃cells':Array Value,cells'.size=len*i.size /\
   (execOp a.eval o).run P w = .ok (.value (.slice (some ⟨w.heap.size,0,none⟩) len len)) { w with heap:=w.heap.push (.cells cells' e (0,0)) } /\
   ∀(n:Nat)(y:ae)(k:Nat)(c:ae),l[n]?=some y->y.cells[k]?=some c->∃u,cells'[n*i.size+k]?=some u/\cg w (fY j M w) c u:=by
 obtain⟨ys,hys,hyz⟩:=xQ hzs;obtain⟨l1,l2⟩:=yx hl;obtain⟨y1,y2⟩:=lG he hyz
 obtain⟨zv,hzv,hzs'⟩:∃zv,i.zero=some zv/\zv.cells.size=i.size:=by
  cases hz:i.zero with
  |none=>rw[hz] at hzero; cases hzero
  |some zv=>rw[hz] at hzero; exact⟨zv,rfl,by simpa using hzero⟩
 have hvs:∀v,v∈ys.map a.eval->v.cells.size=i.size:=by
  intro v hv;obtain⟨y,hy,rfl⟩:=List.mem_map.1 hv;obtain⟨p,hp,rfl⟩:=List.getElem_of_mem hy;have hpz:p<zs.length:=by omega
  have hpl:p<l.length:=by omega
  have hrep:=y2 p _ _ (List.getElem?_eq_getElem hpz) (List.getElem?_eq_getElem hp);obtain⟨e1,e2,e3⟩:=l2 p _ _ (List.getElem?_eq_getElem hpl) (List.getElem?_eq_getElem hpz);have:=(uV hrep (by rw[<-e1]; exact e2)).1
  rw[<-e1] at this;omega
 let zero:Array Value:=if len*i.size=0 then #[] else zv.cells
 let cells0:Array Value:=(Array.range (len*i.size)).map (zero[· % zero.size]!)
 obtain⟨cells',f1,f2,f3,f4⟩:=Jp (sz:=i.size) (ys.map a.eval) 0 cells0 hvs (by simp[cells0,<-hlen,y1])
 have hfill:Instr.fill (fun k=>some (k*i.size,i.size)) cells0 (parts.map fun p=>(p.1,a.eval p.2)).toList=some cells':=by
  have:(parts.map fun p=>(p.1,a.eval p.2)).toList=((ys.map a.eval).zipIdx 0).map fun x=>(x.2,x.1):=by
   rw[Array.toList_map,hys,List.map_map,List.zipIdx_map,List.map_map];rfl
  rw[this]; exact f1
 have hrun:(execOp a.eval o).run P w = .ok (.value (.slice (some ⟨w.heap.size,0,none⟩) len len)) { w with heap:=w.heap.push (.cells cells' e (0,0)) }:=by
  simp only[execOp,hop,Instr.buildSlice,Sem.run_bind,bu ht,Result.andThen_ok,dz (show iQ P e=some i.size by simp[iQ,hi]),if_neg (show ¬len*i.size>2 ^ 24 by omega),Sem.run_pure]
  simp only[cells0] at hfill
  by_cases hc:len*i.size=0
  ·have hz:zero = #[]:=if_pos hc;rw[hz] at hfill;rw[if_pos hc];simp only[Sem.run_bind,Sem.run_pure,Result.andThen_ok,hfill];simp[newRow]
  ·have hz:zero=zv.cells:=if_neg hc;rw[hz] at hfill;rw[if_neg hc];simp only[zeroValue,Sem.run_bind,gZ hi,Result.andThen_ok,hzv,Sem.run_pure,hfill];simp[newRow]
 have hel:∀(n:Nat)(y:ae)(k:Nat)(c:ae),l[n]?=some y->y.cells[k]?=some c->∃u,cells'[n*i.size+k]?=some u/\cg w (fY j M w) c u:=by
  intro n y k c hn hk;have hnl:=aq hn;have hz:=List.getElem?_eq_getElem (show n<zs.length by omega)
  have hy:=List.getElem?_eq_getElem (show n<ys.length by omega)
  obtain⟨e1,e2,e3⟩:=l2 n y _ hn hz;have hrep:=y2 n _ _ hz hy;obtain⟨s1,s2⟩:=uV hrep (by rw[<-e1]; exact e2)
  rw[<-e1] at s1 s2;have hkl:=aq hk;have hu:=Array.getElem?_eq_getElem (show k<(a.eval ys[n]).cells.size by omega)
  have f:=f4 n (a.eval ys[n]) k (by simp[hy]) (by omega)
  rw[Nat.zero_add] at f;exact⟨_,f.trans hu,s2 k c _ hk hu⟩
 refine⟨by omega,fun y hy=>?_,cells',by first|(simp[f2,cells0])|(simp[f3,cells0]),hrun,hel⟩
 obtain⟨p,hp,rfl⟩:=List.getElem_of_mem hy;exact(l2 p _ _ (List.getElem?_eq_getElem hp) (List.getElem?_eq_getElem (by omega))).2.2
def FO(hr:Rel j M w)(he:aN j M w env a){t e:TypeId}{len:Nat}{parts:Array (Nat×Operand)}{i:TypeInfo}{zs:List cR}(hop:o.op = .buildSlice t len parts)(ht:P.underlying t=some (.slice e))
  (hi:P.info? e=some i) (hzs:AK 0 parts.toList=some zs) (hlen:zs.length=len) (hroom:len*i.size<=2 ^ 24) (hzero:(i.zero.map fun z=>z.cells.size)=some i.size)
  (h:bC C env M (.lits i.size zs)=some x):∃v w',ju P o a w v w'/\dn j M w x v w':=by
 simp only[bC] at h;obtain⟨l,hl,h⟩:=az h;obtain⟨hll,hwd,cells',_,hrun,hel⟩:=yw (w:=w) he hop ht hi hzs hlen hroom hzero hl;obtain⟨q,hb,dw⟩:=ig (w:=w) (.cells cells' e (0,0));refine⟨_,_,.inl hrun,?_⟩;have ext:Ext j M w j M { w with heap:=w.heap.push (.cells cells' e (0,0)) }:=Ext.grow q.size rfl rfl rfl hb
 have rel:Rel j M { w with heap:=w.heap.push (.cells cells' e (0,0)) }:=hr.grow q.size rfl rfl rfl hb
 have key:cg { w with heap:=w.heap.push (.cells cells' e (0,0)) } (fY j M { w with heap:=w.heap.push (.cells cells' e (0,0)) }) (.slice .sh l) (.slice (some ⟨w.heap.size,0,none⟩) len len):=by
  refine .slice l _ _ _ w.heap.size 0 i.size (fun p=>(cells'[p]?).getD undef) hll.symm (Nat.le_refl _) (fun _=>rfl) hwd (fun n y k c hn hk=>?_) (fun n y k c hn hk=>?_)
  ·obtain⟨u,hu,_⟩:=hel n y k c hn hk;refine⟨?_,by simp,fun id hid hj=>?_,fun hx=>absurd (hr.tb _ _ hx) (Nat.lt_irrefl _)⟩
   ·simp only[World.cell?,dw,Nat.zero_add,hu];rfl
   ·have:=hr.lt id _ hid hj;omega
  ·obtain⟨u,hu,hru⟩:=hel n y k c hn hk;rw[hu];exact hru.mono ext.cV
 injection h with h
 subst h;cases l with
 |nil =>
  have:len=0:=by simpa using hll.symm
  subst this;exact⟨j,rel,ext,.c0 _⟩
 |cons y r=>exact⟨j,rel,ext,.plain key⟩
def Pb(hr:Rel j M w)(he:aN j M w env a){t e:TypeId}{len:Nat}{parts:Array (Nat×Operand)}{i:TypeInfo}{zs:List cR}(hop:o.op = .buildSlice t len parts)(ht:P.underlying t=some (.slice e))
  (hi:P.info? e=some i) (hzs:AK 0 parts.toList=some zs) (hlen:zs.length=len) (hroom:len*i.size<=2 ^ 24) (hzero:(i.zero.map fun z=>z.cells.size)=some i.size)
  (h:bC C env M (.wK i.size zs)=some x):∃v w',ju P o a w v w'/\dn j M w x v w':=by
 simp only[bC] at h;obtain⟨l,hl,h⟩:=az h;cases h;obtain⟨hll,hwd,cells',hcs,hrun,hel⟩:=yw (w:=w) he hop ht hi hzs hlen hroom hzero hl;obtain⟨q,hb,dw⟩:=ig (w:=w) (.cells cells' e (0,0));have hob:∀b,some w.heap.size=some b->w.heap.size<=b/\b<({ w with heap:=w.heap.push (.cells cells' e (0,0)) }:World).heap.size:=fun b h=>by cases h; simp
 have ext:Ext j M w (cH j M.length (some w.heap.size)) (M++[.tick i.size l.length]) { w with heap:=w.heap.push (.cells cells' e (0,0)) }:=Ext.push (fun b hb=>(hob b hb).1) q hb
 refine⟨_,_,.inl hrun,cH j M.length (some w.heap.size),hr.push hob q hb (fun h=>by cases h) (fun sz n b _ hb=>by cases hb; exact⟨cells',e,dw⟩),ext,?_⟩
 refine .own (sz:=i.size) (n:=l.length) (by simp) (Nat.le_refl _) ?_ fun _ => .inr ⟨w.heap.size,len,cells',e,by simp[cH],by rw[hll],dw,by omega,by omega⟩
 refine .slice l _ _ _ w.heap.size 0 i.size (fun p=>(cells'[p]?).getD undef) hll.symm (Nat.le_refl _) (fun _=>rfl) hwd (fun n y k c hn hk=>?_) (fun n y k c hn hk=>?_)
 ·obtain⟨u,hu,_⟩:=hel n y k c hn hk;have hk':k<i.size:=by rw[<-hwd y (List.mem_of_getElem? hn)]; exact aq hk
  refine⟨?_,by simp,fun id hid hj=>?_,fun hx=>absurd (hr.tb _ _ (by rw[<-ext.X]; exact hx)) (Nat.lt_irrefl _)⟩
  ·simp only[World.cell?,dw,Nat.zero_add,hu];rfl
  ·have hid':id=M.length:=by
    rcases Nat.lt_or_ge id M.length with h|h
    ·rw[show cH j M.length (some w.heap.size) id=j id by simp[cH,Nat.ne_of_lt h]] at hj
     exact absurd (hr.lt id _ h hj) (Nat.lt_irrefl _)
    ·simp at hid; omega
   subst hid';refine⟨i.size,l.length,by simp,?_⟩
   have:=Nat.mul_le_mul_right i.size (show n+1<=l.length from aq hn)
   rw[Nat.add_mul] at this;omega
 ·obtain⟨u,hu,hru⟩:=hel n y k c hn hk;rw[hu];exact hru.mono ext.cV
end
end
end Go.Abs
