import Derived.Lib.SplitLaws
import Derived.Lib.IndexMore
import Derived.Calls
import Derived.Laws.Sem
import Derived.Below
import Derived.Test.YtannopdcbocngaaGreatDoorProg
import Derived.Laws.Strings
import Derived.Laws.StructEq
set_option linter.unusedSimpArgs false
set_option linter.unusedVariables false
set_option linter.unusedSectionVars false
namespace Go.Proofs.YtannopdcbocngaaGreatDoor
open Go
def cutL (c:UInt8):List UInt8→List (List UInt8)
 | []=>[[]]
 |x::r=>if x=c then []::cutL c r else ((x::(cutL c r).headD [])::(cutL c r).tail)
theorem cutL_ne (c:UInt8):∀s,cutL c s≠[]
 | []=>by simp [cutL]
 |x::r=>by unfold cutL; split<;>simp
theorem cutL_split (c:UInt8) (s:List UInt8):cutL c s=(cutL c s).headD []::(cutL c s).tail:=by
 cases h:cutL c s with
 |nil=>exact absurd h (cutL_ne c s)
 |cons a b=>rfl
theorem index_cons_ne {b c:UInt8} (l:List UInt8) (h:b≠c):Lib.index (b::l) [c]=if Lib.index l [c] = -1 then -1 else Lib.index l [c]+1:=by
 rw [Lib.index_one,Lib.index_one,Lib.indexByte]
 simp [h]
theorem index_cons_eq (c:UInt8) (l:List UInt8):Lib.index (c::l) [c]=0:=by
 rw [Lib.index_one,Lib.indexByte]
 simp
theorem splitK_cutL (c:UInt8):∀s:List UInt8,Lib.splitK [c] 0 (s.count c) s=cutL c s
 | []=>rfl
 |b::l=>by
  have ih:=splitK_cutL c l
  by_cases h:b=c
  ·subst h
   rw [List.count_cons_self,Lib.splitK,index_cons_eq]
   simp [cutL,ih]
  ·rw [List.count_cons_of_ne h,cutL,if_neg h,←ih]
   cases hk:l.count c with
   |zero=>simp [Lib.splitK]
   |succ k =>
    rw [Lib.splitK,Lib.splitK,index_cons_ne l h]
    have hge:=Lib.index_ge l [c]
    by_cases hi:Lib.index l [c] = -1
    ·simp [hi]
    ·have h1:Lib.index l [c]+1 ≠ -1:=by omega
     have h2:(Lib.index l [c]+1).toNat=(Lib.index l [c]).toNat+1:=by omega
     simp [hi,h1,h2]
theorem cutL_none (c:UInt8):∀s:List UInt8,Lib.indexByte s c<0→cutL c s=[s]
 | [],_=>rfl
 |b::l,h=>by
  have hge:=Lib.indexByte_ge l c
  unfold Lib.indexByte at h
  by_cases hb:b=c
  ·simp [hb] at h
  ·have hb':(b==c)=false:=by simpa using hb
   rw [hb',if_neg (by decide)] at h
   have hl:Lib.indexByte l c<0:=by
    split at h
    ·rename_i e; have:=beq_iff_eq.1 e; omega
    ·rename_i e; omega
   rw [cutL,if_neg hb,cutL_none c l hl]
   rfl
theorem cutL_some (c:UInt8):∀(s:List UInt8) (i:Nat),Lib.indexByte s c=i→cutL c s=s.take i::cutL c (s.drop (i+1))
 | [],i,h=>by unfold Lib.indexByte at h; omega
 |b::l,i,h=>by
  have hge:=Lib.indexByte_ge l c
  unfold Lib.indexByte at h
  by_cases hb:b=c
  ·have hb':(b==c)=true:=by simpa using hb
   rw [hb',if_pos rfl] at h
   have:i=0:=by omega
   subst this
   rw [cutL,if_pos hb]; simp
  ·have hb':(b==c)=false:=by simpa using hb
   rw [hb',if_neg (by decide)] at h
   split at h
   ·omega
   ·rename_i hne
    have hne':Lib.indexByte l c ≠ -1:=by simpa using hne
    obtain ⟨k,rfl⟩:∃k,i=k+1:=⟨i-1,by omega⟩
    have hk:Lib.indexByte l c=k:=by omega
    rw [cutL,if_neg hb,cutL_some c l k hk]
    simp
theorem cutL_len (c:UInt8):∀s:List UInt8,(cutL c s).length≤s.length+1
 | []=>by simp [cutL]
 |x::r=>by
  have:=cutL_len c r
  unfold cutL
  split
  ·simp; omega
  ·simp; omega
theorem cutL_mem (c:UInt8):∀(s x:List UInt8),x∈cutL c s→x.length≤s.length
 | [],x,h=>by simp [cutL] at h; subst h; simp
 |b::r,x,h=>by
  unfold cutL at h
  split at h
  ·rcases List.mem_cons.1 h with rfl|h
   ·simp
   ·have:=cutL_mem c r x h; simp; omega
  ·rcases List.mem_cons.1 h with rfl|h
   ·have:=cutL_mem c r ((cutL c r).headD []) (by rw [cutL_split c r]; simp)
    simpa using this
   ·have:=cutL_mem c r x (List.mem_of_mem_tail h); simp; omega
theorem cut_le (s p:List UInt8):(Lib.cut s p).1.length≤s.length∧(Lib.cut s p).2.1.length≤s.length:=by
 unfold Lib.cut
 split
 ·simp only [List.length_take,List.length_drop]; omega
 ·simp
end Go.Proofs.YtannopdcbocngaaGreatDoor
namespace Go.Abs
open Go
inductive Tk where
 |sh|c0|own (k:Nat)
 deriving DecidableEq,Repr
inductive AVal where
 |bool (b:Bool)
 |int (k:IntKind) (n:Int)
 |str (s:List UInt8)
 |slice (tk:Tk) (xs:List AVal)
 |agg (cs:List AVal)
 |tuple (vs:List AVal)
 |ptr (id off:Nat)
 |rptr (cs:List AVal)
 |func (f:Nat) (caps:List AVal)
 |mref (id:Nat)
 |iref (id:Nat)
 |fmap (ks vs:List AVal)
 |aref (id ver sz lo hi:Nat)
 |eptr (id ver i off:Nat)
 |mfn (f:Nat) (fs:List AVal)
 |bself (id t:Nat)
 |obuf (k t:Nat) (x:Bool) (l:List UInt8)
 |raw (v:Value)
 |any
 deriving Inhabited
inductive ABox where
 |cells (cs:List AVal)
 |tick (sz n:Nat)
 |map (ks vs:List AVal)
 |siter (s:List UInt8) (pos:Nat)
 |arr (sz ver:Nat) (xs:List AVal)
def ABox.tag:ABox→Nat
 | .cells _=>0
 | .tick sz _=>sz+3
 | .map _ _=>1
 | .siter _ _=>2
 | .arr sz _ _=>sz+3
def ABox.fixed:ABox→Bool
 | .tick _ _ | .arr _ _ _=>false
 |_=>true
abbrev AMem:=List ABox
abbrev Env:=List (Nat×AVal)
def obind {α β:Type} (x:Option α) (f:α→Option β):Option β:=match x with
 |some a=>f a
 |none=>none
@[congr] theorem obind_congr {α β:Type} {x x':Option α} {f:α→Option β} (h:x=x'):obind x f=obind x' f:=by rw [h]
@[simp] theorem obind_some {α β:Type} (a:α) (f:α→Option β):obind (some a) f=f a:=rfl
@[simp] theorem obind_none {α β:Type} (f:α→Option β):obind none f=none:=rfl
def oif {α:Type} (b:Bool) (x y:Option α):Option α:=match b with
 |true=>x
 |false=>y
@[congr] theorem oif_congr {α:Type} {b b':Bool} {x y:Option α} (h:b=b'):oif b x y=oif b' x y:=by rw [h]
@[simp] theorem oif_true {α:Type} (x y:Option α):oif true x y=x:=rfl
@[simp] theorem oif_false {α:Type} (x y:Option α):oif false x y=y:=rfl
@[simp] theorem obind_oif {α β:Type} (b:Bool) (x y:Option α) (f:α→Option β):obind (oif b x y) f=oif b (obind x f) (obind y f):=by cases b<;>rfl
open Classical in
noncomputable def owhen {α:Type} (p:Prop) (x:Option α):Option α:=if p then x else none
@[congr] theorem owhen_congr {α:Type} {p p':Prop} {x:Option α} (h:p=p'):owhen p x=owhen p' x:=by rw [h]
theorem owhen_pos {α:Type} {p:Prop} {x:Option α} (h:p):owhen p x=x:=if_pos h
@[simp] theorem owhen_true {α:Type} (x:Option α):owhen True x=x:=if_pos trivial
@[simp] theorem owhen_false {α:Type} (x:Option α):owhen False x=none:=if_neg not_false
@[simp] theorem obind_owhen {α β:Type} (p:Prop) (x:Option α) (f:α→Option β):obind (owhen p x) f=owhen p (obind x f):=by
 unfold owhen; split<;>rfl
def getS:Env→Nat→AVal
 | [],_ => .any
 |(k,v)::e,t=>if k=t then v else getS e t
def AVal.cells:AVal→List AVal
 | .agg cs=>cs
 |x=>[x]
def AVal.isCell:AVal→Bool
 | .agg _ | .tuple _ | .any=>false
 | .raw v=>match v with | .agg _ | .tuple _=>false|_=>true
 |_=>true
def AVal.cells?:AVal→Option (List AVal)
 | .agg cs=>some cs
 | .tuple _ | .any=>none
 | .raw (.agg _)=>none
 |x=>some [x]
def AVal.shut:AVal→AVal
 | .slice _ xs => .slice .sh xs
 |x=>x
def AVal.shutD:AVal→AVal
 | .slice _ xs => .slice .sh xs
 | .agg cs => .agg (cs.map AVal.shut)
 |x=>x
def AVal.plainCell:AVal→Bool
 | .bool _ | .int .. | .str _=>true
 | .slice .sh _=>true
 | .raw v=>match v with | .pointer none | .nilFunc | .nilIface | .map none=>true|_=>false
 |_=>false
def AVal.plain:AVal→Bool
 | .agg cs=>cs.all AVal.plainCell
 |x=>x.plainCell
def AVal.back0 (base:Nat) (M:AMem):AVal→AVal
 | .slice (.own k) xs=>if k<base then .slice (.own k) xs else .slice .sh xs
 | .ptr id off=>if id<base then .ptr id off else .any
 | .mref id=>if id<base then .mref id else .any
 | .iref id=>if id<base then .iref id else .any
 | .aref id ver sz lo hi=>if id<base then .aref id ver sz lo hi else match M[id]? with
  |some (.arr _ v xs)=>if v=ver then .slice .sh ((xs.take hi).drop lo) else .any
  |_ => .any
 | .eptr id ver i off=>if id<base then .eptr id ver i off else .any
 | .bself id t=>if id<base then .bself id t else .any
 | .obuf k t x l=>if k<base then .obuf k t x l else .any
 | .func _ _ | .agg _ | .tuple _ => .any
 |x=>x
def AVal.back1 (base:Nat) (M:AMem):AVal→AVal
 | .func f caps => .func f (caps.map (AVal.back0 base M))
 |x=>x.back0 base M
def AVal.back2 (base:Nat) (M:AMem):AVal→AVal
 | .agg cs => .agg (cs.map (AVal.back1 base M))
 |x=>x.back1 base M
def AVal.backV (base:Nat) (M:AMem):AVal→AVal
 | .tuple vs => .tuple (vs.map (AVal.back2 base M))
 |x=>x.back2 base M
def ABox.back (base:Nat) (M:AMem):ABox→ABox
 | .cells cs => .cells (cs.map (AVal.back1 base M))
 | .tick sz n => .tick sz n
 | .map ks vs => .map ks (vs.map (AVal.back2 base M))
 | .siter s p => .siter s p
 | .arr sz v xs => .arr sz v xs
def backM (base:Nat) (M:AMem):AMem:=(M.take base).map (ABox.back base M)
def backE (base:Nat) (M:AMem) (env:Env):Env:=env.map fun x=>(x.1,x.2.backV base M)
def AVal.backR1 (base:Nat) (M:AMem):AVal→AVal
 | .slice _ xs => .slice .sh xs
 | .mref id=>if id<base then .mref id else match M[id]? with
  |some (.map ks vs)=>if vs.all AVal.plain&&ks.all AVal.plainCell then .fmap ks vs else .any
  |_ => .any
 |x=>x.back1 base M
def AVal.backR2 (base:Nat) (M:AMem):AVal→AVal
 | .agg cs => .agg (cs.map (AVal.backR1 base M))
 |x=>x.backR1 base M
def AVal.backR (base:Nat) (M:AMem):AVal→AVal
 | .tuple vs => .tuple (vs.map (AVal.backR2 base M))
 |x=>x.backR2 base M
def AVal.ids0:AVal→List Nat
 | .ptr id _ | .mref id | .iref id | .aref id _ _ _ _ | .eptr id _ _ _=>[id]
 | .slice (.own k) _=>[k]
 | .bself id _=>[id]
 | .obuf k _ _ _=>[k]
 |_=>[]
def AVal.ids1:AVal→List Nat
 | .func _ caps=>caps.flatMap AVal.ids0
 |x=>x.ids0
def AVal.ids:AVal→List Nat
 | .agg cs=>cs.flatMap AVal.ids1
 |x=>x.ids1
def AVal.flat0:AVal→Bool
 | .func _ _ | .agg _ | .tuple _=>false
 |_=>true
def AVal.flat1:AVal→Bool
 | .func _ caps=>caps.all AVal.flat0
 | .agg _ | .tuple _=>false
 |_=>true
def AVal.flat:AVal→Bool
 | .agg cs=>cs.all AVal.flat1
 |x=>x.flat1
def ABox.flat:ABox→Bool
 | .cells cs=>cs.all AVal.flat1
 | .map _ vs=>vs.all AVal.flat
 |_=>true
def AVal.ren0 (ρ:Nat→Nat):AVal→AVal
 | .ptr id off => .ptr (ρ id) off
 | .mref id => .mref (ρ id)
 | .iref id => .iref (ρ id)
 | .aref id v sz lo hi => .aref (ρ id) v sz lo hi
 | .eptr id v i off => .eptr (ρ id) v i off
 | .slice (.own k) xs => .slice (.own (ρ k)) xs
 | .bself id t => .bself (ρ id) t
 | .obuf k t x l => .obuf (ρ k) t x l
 |x=>x
def AVal.ren1 (ρ:Nat→Nat):AVal→AVal
 | .func f caps => .func f (caps.map (AVal.ren0 ρ))
 |x=>x.ren0 ρ
def AVal.ren (ρ:Nat→Nat):AVal→AVal
 | .agg cs => .agg (cs.map (AVal.ren1 ρ))
 |x=>x.ren1 ρ
def AVal.renR (ρ:Nat→Nat):AVal→AVal
 | .tuple vs => .tuple (vs.map (AVal.ren ρ))
 |x=>x.ren ρ
def AVal.flatR:AVal→Bool
 | .tuple vs=>vs.all AVal.flat
 |x=>x.flat
def ABox.ren (ρ:Nat→Nat):ABox→ABox
 | .cells cs => .cells (cs.map (AVal.ren1 ρ))
 | .map ks vs => .map ks (vs.map (AVal.ren ρ))
 |b=>b
def ABox.ids:ABox→List Nat
 | .cells cs=>cs.flatMap AVal.ids1
 | .map _ vs=>vs.flatMap AVal.ids
 |_=>[]
def nth {α:Type}:List α→Nat→Option α
 | [],_=>none
 |a::_,0=>some a
 |_::l,n+1=>nth l n
def setN {α:Type}:List α→Nat→α→List α
 | [],_,_=>[]
 |_::l,0,x=>x::l
 |a::l,n+1,x=>a::setN l n x
def addAll:List Nat→List Nat→List Nat
 |a,[]=>a
 |a,x::r=>addAll (if a.contains x then a else a++[x]) r
def idsAt (M:AMem):List Nat→List Nat
 | []=>[]
 |i::r=>(match nth M i with|some b=>b.ids|none=>[])++idsAt M r
def reach1 (M:AMem) (acc:List Nat):List Nat:=addAll acc (idsAt M acc)
def reach (M:AMem) (l:List Nat):List Nat:=reach1 M (reach1 M (reach1 M (addAll [] l)))
def idxN:List Nat→Nat→Nat
 | [],_=>0
 |a::l,x=>if a=x then 0 else idxN l x+1
def atN (ids:List Nat) (i:Nat):Nat:=(nth ids i).getD 0
def pickM (M:AMem) (ρ:Nat→Nat):List Nat→Option AMem
 | []=>some []
 |i::r=>match nth M i with
  |some b=>if b.flat then obind (pickM M ρ r) fun l=>some (b.ren ρ::l) else none
  |none=>none
def wback (ids:List Nat) (M:AMem):List Nat→AMem→AMem
 |i::r,b::l=>wback ids (setN M i (b.ren (atN ids))) r l
 |_,_=>M
def AVal.frz0 (M:AMem):AVal→AVal
 | .aref id ver sz lo hi=>match nth M id with
  |some (.arr _ v xs)=>if v=ver then .slice .sh ((xs.take hi).drop lo) else .any
  |_ => .any
 |x=>x
def AVal.frz (M:AMem):AVal→AVal
 | .agg cs => .agg (cs.map (AVal.frz0 M))
 |x=>x.frz0 M
def frzM (M:AMem):List Nat→AMem
 | []=>M
 |i::r=>match nth M i with
  |some (.arr sz _ xs)=>frzM (setN M i (.tick sz xs.length)) r
  |_=>frzM M r
inductive Opd where
 |tmp (t:Nat)
 |cst (v:AVal)
def Opd.ev (env:Env):Opd→AVal
 | .tmp t=>getS env t
 | .cst v=>v
inductive ABin where
 |add|sub|mul|quo|rem|eql|neq|lss|leq|gtr|geq|shl|shr|and|or|xor
 deriving DecidableEq,Repr
inductive FK where
 |i|s|b
 deriving DecidableEq
inductive AOp where
 |mv (x:Opd)
 |own (sz:Nat) (x:Opd)
 |pick (c a b:Opd)
 |box0 (cs:List AVal)
 |box (x:Opd)
 |build (zero:List AVal) (parts:List (Nat×Nat×Opd))
 |lits (sz:Nat) (parts:List Opd)
 |litsO (sz:Nat) (parts:List Opd)
 |loadA (n:Nat) (x:Opd)
 |load1 (x:Opd)
 |store (n:Nat) (a x:Opd)
 |storeO (sz p n:Nat) (a x:Opd)
 |chk (x:Opd)
 |bin (op:ABin) (x y:Opd)
 |eqA (ks:List FK) (neg:Bool) (x y:Opd)
 |eqB (neg:Bool) (x y:Opd)
 |not (x:Opd)
 |neg (x:Opd)
 |conv (k:IntKind) (x:Opd)
 |same (x:Opd)
 |fn (f:Nat) (caps:List Opd)
 |bindF (f:Nat) (firsts:List Opd)
 |sliceS (x:Opd) (lo hi:Option Opd)
 |sliceV (sz:Nat) (x:Opd) (lo hi mx:Option Opd)
 |faddr (off:Nat) (x:Opd)
 |fieldA (off n:Nat) (x:Opd)
 |field1 (off:Nat) (x:Opd)
 |iaddr (sz:Nat) (x i:Opd)
 |iaddrA (n sz:Nat) (x i:Opd)
 |indexA (n:Nat) (x i:Opd)
 |indexS (x i:Opd)
 |extract (x:Opd) (i:Nat)
 |call (f:Nat) (args:List Opd)
 |callV (f:Opd) (args:List Opd)
 |callD (f:Nat) (args:List Opd)
 |callF (f:Nat) (args:List Opd)
 |clearA (sz:Nat) (zero:List AVal) (x:Opd)
 |lenS (x:Opd)
 |lenV (x:Opd)
 |append (sz bytes:Nat) (x y:Opd)
 |appendS (e:Nat) (x y:Opd)
 |appendB (e:Nat) (x y:Opd)
 |s2b (x:Opd)
 |boxO (t e:Nat) (cs:List AVal)
 |boxW (t e:Nat) (x:Opd)
 |minmax (mx:Bool) (x y:Opd)
 |b2s (x:Opd)
 |mkMap
 |look (fk:FK) (zero:AVal) (ok:Bool) (m k:Opd)
 |upd (fk:FK) (m k v:Opd)
 |lenM (m:Opd)
 |rngS (x:Opd)
 |nextS (it:Opd)
structure AOper where
 dst:Option Nat
 op:AOp
 guard:Option (Nat×Bool)
 grow:Bool:=false
 nomem:Bool:=false
 sep:List Nat:=[]
def ob (d:Nat) (o:AOp):AOper:=⟨some d,o,none,false,false,[]⟩
def og (d g:Nat) (b:Bool) (o:AOp):AOper:=⟨some d,o,some (g,b),false,false,[]⟩
def ox (o:AOp):AOper:=⟨none,o,none,false,false,[]⟩
inductive ACode where
 |skip
 |region (ops:List AOper) (draw:Bool) (live:List Nat)
 |seq (a b:ACode)
 |cond (c:Opd) (x y:ACode)
 |block (id:Nat) (c:ACode)
 |loop (live:List Nat) (c:ACode)
 |exit (id:Nat)
 |ret
inductive AExit where
 |normal|exit (id:Nat)|ret
 deriving DecidableEq
abbrev CallF:=Nat→List AVal→AMem→Option (AVal×AMem)
def strLt:List UInt8→List UInt8→Bool
 |_,[]=>false
 | [],_::_=>true
 |a::x,b::y=>a<b||(a==b&&strLt x y)
def iand (k:IntKind) (a b:Int):Int:=k.wrap (BitVec.ofInt k.bits a &&& BitVec.ofInt k.bits b).toNat
def ior (k:IntKind) (a b:Int):Int:=k.wrap (BitVec.ofInt k.bits a ||| BitVec.ofInt k.bits b).toNat
def ixor (k:IntKind) (a b:Int):Int:=k.wrap (BitVec.ofInt k.bits a ^^^ BitVec.ofInt k.bits b).toNat
def u8V (b:UInt8):AVal := .int .u8 b.toNat
def abin (op:ABin):AVal→AVal→Option AVal
 | .int k a,.int k' b =>
  match op with
  | .shl=>if 0≤b then some (.int k (k.wrap (a*2 ^ (min b.toNat k.bits)))) else none
  | .shr=>if 0≤b then some (.int k (a.fdiv (2 ^ (min b.toNat k.bits)))) else none
  |op=>if k≠k' then none else
   match op with
   | .add=>some (.int k (k.wrap (a+b)))
   | .sub=>some (.int k (k.wrap (a-b)))
   | .mul=>some (.int k (k.wrap (a*b)))
   | .quo=>if b=0 then none else some (.int k (k.wrap (a.tdiv b)))
   | .rem=>if b=0 then none else some (.int k (a.tmod b))
   | .eql=>some (.bool (a==b))
   | .neq=>some (.bool (a != b))
   | .lss=>some (.bool (a<b))
   | .leq=>some (.bool (a≤b))
   | .gtr=>some (.bool (a>b))
   | .geq=>some (.bool (a≥b))
   | .and=>some (.int k (iand k a b))
   | .or=>some (.int k (ior k a b))
   | .xor=>some (.int k (ixor k a b))
   |_=>none
 | .str a,.str b =>
  match op with
  | .add=>if ((a.length+b.length:Nat):Int)>IntKind.i64.max then none else some (.str (a++b))
  | .eql=>some (.bool (a==b))
  | .neq=>some (.bool (a != b))
  | .lss=>some (.bool (strLt a b))
  | .leq=>some (.bool (strLt a b||a==b))
  | .gtr=>some (.bool (!(strLt a b||a==b)))
  | .geq=>some (.bool (!(strLt a b)))
  |_=>none
 |_,_=>none
def eqCell:FK→AVal→AVal→Option Bool
 | .i,.int k a,.int k' b=>if k=k' then some (a==b) else none
 | .s,.str a,.str b=>some (a==b)
 | .b,.bool a,.bool b=>some (a==b)
 |_,_,_=>none
def eqCells:List FK→List AVal→List AVal→Option Bool
 | [],[],[]=>some true
 |k::ks,a::x,b::y=>obind (eqCell k a b) fun e=>obind (eqCells ks x y) fun f=>some (e&&f)
 |_,_,_=>none
def bytesOf:List AVal→Option (List UInt8)
 | []=>some []
 | .int .u8 n::r=>obind (bytesOf r) fun l=>some (UInt8.ofNat n.toNat::l)
 |_=>none
def mapGet (fk:FK) (k:AVal):List AVal→List AVal→Option (Option AVal)
 | [],[]=>some none
 |k'::ks,v::vs=>obind (eqCell fk k k') fun b=>oif b (some (some v)) (mapGet fk k ks vs)
 |_,_=>none
def mapPut (fk:FK) (k v:AVal):List AVal→List AVal→Option (List AVal×List AVal)
 | [],[]=>obind (eqCell fk k k) fun _=>some ([k],[v])
 |k'::ks,v'::vs=>obind (eqCell fk k k') fun b=>oif b (some (k::ks,v::vs)) (obind (mapPut fk k v ks vs) fun x=>some (k'::x.1,v'::x.2))
 |_,_=>none
def lookRes (zero:AVal) (ok:Bool) (r:Option AVal):AVal:=match ok with
 |true => .tuple [r.getD zero,.bool r.isSome]
 |false=>r.getD zero
def mapOf (M:AMem):AVal→Option (List AVal×List AVal)
 | .mref id=>match nth M id with|some (.map ks vs)=>some (ks,vs)|_=>none
 | .fmap ks vs=>some (ks,vs)
 |_=>none
def writeAt (cs:List AVal) (off:Nat) (new:List AVal):List AVal:=cs.take off++(new++cs.drop (off+new.length))
def putCells (e:AVal) (off:Nat) (new:List AVal):AVal:=match e,new with
 | .agg cs,new => .agg (writeAt cs off new)
 |_,[c]=>c
 |e,_=>e
def fillParts (env:Env):List AVal→List (Nat×Nat×Opd)→Option (List AVal)
 |cs,[]=>some cs
 |cs,(off,n,x)::r =>
  obind (x.ev env).cells? fun new=>if new.length=n∧off+n≤cs.length then fillParts env (writeAt cs off new) r else none
def litsOf (env:Env) (sz:Nat):List Opd→Option (List AVal)
 | []=>some []
 |x::r=>if (x.ev env).shutD.plain=true∧(x.ev env).shutD.cells.length=sz then obind (litsOf env sz r) fun l=>some ((x.ev env).shutD::l) else none
def boundOf (env:Env) (n:Nat):Option Opd→Option Int
 |none=>some n
 |some x=>match x.ev env with | .int _ i=>some i|_=>none
def wid (xs:List AVal) (sz:Nat):Prop:=∀x,x∈xs→x.cells.length=sz
def roomOk (n bytes:Nat):Prop:=n*bytes≤2 ^ 44
noncomputable def callOp (call:CallF) (f:Nat) (vs:List AVal) (M:AMem):Option (AVal×AMem) :=
 if vs.all AVal.flat then
  obind (pickM M (idxN (reach M (vs.flatMap AVal.ids))) (reach M (vs.flatMap AVal.ids))) fun B =>
   if reach1 M (reach M (vs.flatMap AVal.ids))=reach M (vs.flatMap AVal.ids) then
    obind (call f (vs.map (AVal.ren (idxN (reach M (vs.flatMap AVal.ids))))) B) fun x =>
     if x.2.length=B.length∧x.1.flatR=true∧x.2.all ABox.flat=true then some (x.1.renR (atN (reach M (vs.flatMap AVal.ids))),wback (reach M (vs.flatMap AVal.ids)) M (reach M (vs.flatMap AVal.ids)) x.2) else none
   else none
 else none
noncomputable def aop (call:CallF) (env:Env) (M:AMem):AOp→Option (AVal×AMem)
 | .mv x=>some (x.ev env,M)
 | .own sz x =>
  match x.ev env with
  | .slice .c0 []=>some (.slice (.own M.length) [],M++[.tick sz 0])
  |_=>none
 | .pick c a b=>match c.ev env with
  | .bool t=>oif t (some (a.ev env,M)) (some (b.ev env,M))
  |_=>none
 | .box0 cs=>some (.ptr M.length 0,M++[.cells cs])
 | .box x=>obind (x.ev env).cells? fun cs=>some (.ptr M.length 0,M++[.cells cs])
 | .build zero parts=>obind (fillParts env zero parts) fun cs=>some (.agg cs,M)
 | .lits sz parts=>obind (litsOf env sz parts) fun l=>some (match l with|[] => .slice .c0 []|_ => .slice .sh l,M)
 | .litsO sz parts=>obind (litsOf env sz parts) fun l=>some (.slice (.own M.length) l,M++[.tick sz l.length])
 | .loadA n x =>
  match x.ev env with
  | .ptr id off=>match nth M id with
   |some (.cells cs)=>if off+n≤cs.length then some (.agg ((cs.drop off).take n),M) else none
   |_=>none
  | .rptr cs=>if n≤cs.length then some (.agg (cs.take n),M) else none
  | .eptr id ver i off=>match nth M id with
   |some (.arr _ v xs)=>if v=ver then obind (xs[i]?) fun e=>if off+n≤e.cells.length then some (.agg ((e.cells.drop off).take n),M) else none else none
   |_=>none
  |_=>none
 | .load1 x =>
  match x.ev env with
  | .ptr id off=>match nth M id with
   |some (.cells cs)=>obind (nth cs off) fun c=>some (c,M)
   |_=>none
  | .rptr cs=>obind (nth cs 0) fun c=>some (c,M)
  | .eptr id ver i off=>match nth M id with
   |some (.arr _ v xs)=>if v=ver then obind (xs[i]?) fun e=>obind (nth e.cells off) fun c=>some (c,M) else none
   |_=>none
  |_=>none
 | .store n a x =>
  match a.ev env with
  | .ptr id off=>match nth M id with
   |some (.cells cs)=>obind (x.ev env).cells? fun new =>
    if new.length=n∧off+n≤cs.length∧new.all AVal.isCell=true then some (.any,setN M id (.cells (writeAt cs off new))) else none
   |_=>none
  | .eptr id ver i off=>match nth M id with
   |some (.arr sz v xs)=>obind (x.ev env).cells? fun new=>obind (xs[i]?) fun e =>
    if v=ver∧new.length=n∧off+n≤e.cells.length∧(new.map AVal.shut).all AVal.plainCell=true then some (.any,setN M id (.arr sz ver (setN xs i (putCells e off (new.map AVal.shut))))) else none
   |_=>none
  |_=>none
 | .storeO sz p n a x =>
  match a.ev env with
  | .ptr id off=>match nth M id with
   |some (.cells cs)=>obind (x.ev env).cells? fun new =>
    match nth new p with
    |some (.slice .c0 [])=>if new.length=n∧off+n≤cs.length∧new.all AVal.isCell=true then some (.any,setN M id (.cells (writeAt cs off (setN new p (.slice (.own M.length) []))))++[.tick sz 0]) else none
    |_=>none
   |_=>none
  |_=>none
 | .chk x=>match x.ev env with
  | .ptr id off=>some (.ptr id off,M)
  | .rptr cs=>some (.rptr cs,M)
  | .func f caps=>some (.func f caps,M)
  | .eptr id v i off=>some (.eptr id v i off,M)
  |_=>none
 | .bin op x y=>obind (abin op (x.ev env) (y.ev env)) fun v=>some (v,M)
 | .eqA ks neg x y =>
  match x.ev env,y.ev env with
  | .agg a,.agg b=>obind (eqCells ks a b) fun e=>some (.bool (match neg with|true => !e|false=>e),M)
  |_,_=>none
 | .eqB neg x y=>match x.ev env,y.ev env with
  | .bool a,.bool b=>some (.bool (match neg with|true => !(a==b)|false=>a==b),M)
  |_,_=>none
 | .not x=>match x.ev env with | .bool b=>some (.bool (!b),M)|_=>none
 | .neg x=>match x.ev env with | .int k n=>some (.int k (k.wrap (0-n)),M)|_=>none
 | .conv k x=>match x.ev env with | .int _ n=>some (.int k (k.wrap n),M)|_=>none
 | .same x=>match x.ev env with | .str s=>some (.str s,M)|_=>none
 | .fn f caps=>some (.func f (caps.map (Opd.ev env)),M)
 | .bindF f firsts=>if (firsts.map fun x=>(x.ev env).shutD).all AVal.plain then some (.mfn f (firsts.map fun x=>(x.ev env).shutD),M) else none
 | .sliceS x lo hi =>
  match x.ev env with
  | .str s=>obind (boundOf env s.length hi) fun h=>obind (boundOf env 0 lo) fun l =>
   owhen (0≤h∧h≤s.length∧0≤l∧l≤h) (some (.str ((s.take h.toNat).drop l.toNat),M))
  |_=>none
 | .sliceV sz x lo hi mx =>
  match x.ev env with
  | .slice _ xs=>owhen (wid xs sz) <| obind (boundOf env xs.length hi) fun h=>obind (boundOf env 0 lo) fun l =>
   match mx with
   |none=>owhen (0≤h∧h≤xs.length∧0≤l∧l≤h) (some (.slice .sh ((xs.take h.toNat).drop l.toNat),M))
   |some m=>match m.ev env with
    | .int _ m=>owhen (0≤m∧m≤xs.length∧0≤h∧h≤m∧0≤l∧l≤h)
      (oif (m==0) (some (.slice .c0 [],M)) (some (.slice .sh ((xs.take h.toNat).drop l.toNat),M)))
    |_=>none
  | .aref id v sz' al ah=>owhen (sz'=sz) <| obind (boundOf env (ah-al) hi) fun h=>obind (boundOf env 0 lo) fun l =>
   match mx with
   |none=>owhen (0≤h∧h≤(ah-al:Nat)∧0≤l∧l≤h) (oif (l==h) (some (.slice .sh [],M)) (some (.aref id v sz (al+l.toNat) (al+h.toNat),M)))
   |some m=>match m.ev env with
    | .int _ m=>owhen (0≤m∧m≤(ah-al:Nat)∧0≤h∧h≤m∧0≤l∧l≤h)
      (oif (m==0) (some (.slice .c0 [],M)) (oif (l==h) (some (.slice .sh [],M)) (some (.aref id v sz (al+l.toNat) (al+h.toNat),M))))
    |_=>none
  |_=>none
 | .faddr off x=>match x.ev env with
  | .ptr id o=>some (.ptr id (o+off),M)
  | .rptr cs=>some (.rptr (cs.drop off),M)
  | .eptr id v i o=>some (.eptr id v i (o+off),M)
  |_=>none
 | .fieldA off n x=>match x.ev env with
  | .agg cs=>if off+n≤cs.length then some (.agg ((cs.drop off).take n),M) else none
  |_=>none
 | .field1 off x=>match x.ev env with
  | .agg cs=>obind (nth cs off) fun c=>some (c,M)
  |_=>none
 | .iaddr sz x i =>
  match x.ev env,i.ev env with
  | .slice _ xs,.int _ n=>owhen (0≤n) (obind (xs[n.toNat]?) fun e=>if e.cells.length=sz then some (.rptr e.cells,M) else none)
  | .aref id v sz' lo hi,.int _ n=>owhen (0≤n∧n<(hi-lo:Nat)∧sz'=sz) (some (.eptr id v (lo+n.toNat) 0,M))
  |_,_=>none
 | .iaddrA n sz x i =>
  match x.ev env,i.ev env with
  | .rptr cs,.int _ m=>owhen (0≤m∧m<n∧n*sz≤cs.length) (some (.rptr (cs.drop (m.toNat*sz)),M))
  |_,_=>none
 | .indexA n x i =>
  match x.ev env,i.ev env with
  | .agg cs,.int _ m=>owhen (0≤m∧m<n) (obind (cs[m.toNat]?) fun c=>some (c,M))
  |_,_=>none
 | .indexS x i =>
  match x.ev env,i.ev env with
  | .str s,.int _ n=>owhen (0≤n) (obind (s[n.toNat]?) fun b=>some (.int .u8 b.toNat,M))
  |_,_=>none
 | .extract x i=>match x.ev env with | .tuple vs=>obind (nth vs i) fun v=>some (v,M)|_=>none
 | .call f args=>callOp call f (args.map fun x=>(x.ev env).shutD) M
 | .callD f args=>call f (args.map (Opd.ev env)) M
 | .callF f args=>callOp call f (args.map fun x=>((x.ev env).frz M).shutD) (frzM M ((args.map (Opd.ev env)).flatMap AVal.ids))
 | .clearA sz zero x=>match x.ev env with
  | .slice _ xs=>match xs with|[]=>some (.any,M)|_=>none
  | .aref id ver sz' lo hi=>match nth M id with
   |some (.arr sz0 v xs)=>if v=ver∧sz'=sz∧zero.length=sz∧zero.all AVal.plainCell=true then some (.any,setN M id (.arr sz0 ver (xs.take lo++(List.replicate (hi-lo) (.agg zero)++xs.drop hi)))) else none
   |_=>none
  |_=>none
 | .callV f args=>match f.ev env with
  | .func g caps=>callOp call g ((args.map fun x=>(x.ev env).shutD)++caps) M
  | .mfn g fs=>callOp call g (fs++args.map fun x=>(x.ev env).shutD) M
  |_=>none
 | .lenS x=>match x.ev env with | .str s=>some (.int .i64 s.length,M)|_=>none
 | .lenV x=>match x.ev env with
  | .slice _ xs=>some (.int .i64 xs.length,M)
  | .aref _ _ _ lo hi=>some (.int .i64 (hi-lo:Nat),M)
  |_=>none
 | .append sz bytes x y =>
  match x.ev env,y.ev env with
  | .slice tk xs,.slice _ ys =>
   owhen (roomOk (xs.length+ys.length) bytes∧wid xs sz∧wid ys sz) (
    match tk with
    | .c0=>match xs with|[]=>some (.slice (.own M.length) ys,M++[.tick sz ys.length])|_=>none
    | .own k=>match nth M k with
     |some (.tick sz' n)=>owhen (sz'=sz∧n=xs.length) (some (.slice (.own k) (xs++ys),setN M k (.tick sz (xs.length+ys.length))))
     |_=>none
    | .sh=>none)
  |_,_=>none
 | .appendS e y z =>
  match y.ev env,z.ev env with
  | .obuf k t x l,.str s=>match nth M k with
   |some (.tick sz n)=>owhen (sz=1∧t=e∧n=l.length∧roomOk (l.length+s.length) 1) (some (.obuf k t x (l++s),setN M k (.tick 1 (l.length+s.length))))
   |_=>none
  |_,_=>none
 | .appendB e y z =>
  match y.ev env,z.ev env with
  | .obuf k t x l,.slice _ ys=>obind (bytesOf ys) fun s=>owhen (ys=s.map u8V) (match nth M k with
   |some (.tick sz n)=>owhen (sz=1∧t=e∧n=l.length∧roomOk (l.length+s.length) 1) (some (.obuf k t x (l++s),setN M k (.tick 1 (l.length+s.length))))
   |_=>none)
  |_,_=>none
 | .s2b x=>match x.ev env with | .str l=>some (.slice .sh (l.map u8V),M)|_=>none
 | .boxW t e x=>match x.ev env with
  | .agg cs=>match cs with
   | .raw (.pointer none) :: .slice .c0 []::rest=>some (.ptr (M.length+1) 0,M++[.tick 1 0,.cells (.bself (M.length+1) t :: .obuf M.length e false []::rest)])
   |_=>none
  |_=>none
 | .boxO t e cs=>match cs with
  | .raw (.pointer none) :: .slice .c0 []::rest=>some (.ptr (M.length+1) 0,M++[.tick 1 0,.cells (.bself (M.length+1) t :: .obuf M.length e true []::rest)])
  |_=>none
 | .minmax mx x y=>match x.ev env,y.ev env with
  | .int k a,.int _ b=>some (.int k (match mx with|true=>if b>a then b else a|false=>if b<a then b else a),M)
  |_,_=>none
 | .b2s x=>match x.ev env with | .slice _ xs=>obind (bytesOf xs) fun l=>some (.str l,M)|_=>none
 | .mkMap=>some (.mref M.length,M++[.map [] []])
 | .look fk zero ok m k=>obind (mapOf M (m.ev env)) fun e=>obind (mapGet fk (k.ev env) e.1 e.2) fun r=>some (lookRes zero ok r,M)
 | .upd fk m k v=>match m.ev env with
  | .mref id=>match nth M id with
   |some (.map ks vs)=>obind (mapPut fk (k.ev env) (v.ev env) ks vs) fun e=>some (.any,setN M id (.map e.1 e.2))
   |_=>none
  |_=>none
 | .lenM m=>obind (mapOf M (m.ev env)) fun e=>some (.int .i64 e.1.length,M)
 | .rngS x=>match x.ev env with | .str s=>some (.iref M.length,M++[.siter s 0])|_=>none
 | .nextS it=>match it.ev env with
  | .iref id=>match nth M id with
   |some (.siter s pos)=>oif (decide (pos<s.length))
     (some (.tuple [.bool true,.int .i64 pos,.int .i32 (Utf8.decode ⟨s.toArray⟩ pos).1],setN M id (.siter s (pos+(Utf8.decode ⟨s.toArray⟩ pos).2))))
     (some (.tuple [.bool false],M))
   |_=>none
  |_=>none
def putS (env:Env) (dst:Option Nat) (v:AVal):Env :=
 match dst with
 |some d=>(d,v)::env
 |none=>env
def AOp.argIds (env:Env):AOp→List Nat
 | .call _ args=>(args.map fun x=>(x.ev env).shutD).flatMap AVal.ids
 | .callV f args=>match f.ev env with
  | .func _ caps=>((args.map fun x=>(x.ev env).shutD)++caps).flatMap AVal.ids
  | .mfn _ fs=>(fs++args.map fun x=>(x.ev env).shutD).flatMap AVal.ids
  |_=>[]
 |_=>[]
def sepAll (env:Env) (M M':AMem):List Nat→Prop
 | []=>True
 |z::r=>(match getS env z with
  | .ptr id _=>nth M' id=nth M id
  |_=>False)∧sepAll env M M' r
noncomputable def astep (call:CallF) (o:AOper) (env:Env) (M:AMem):Option (AVal×AMem) :=
 match o.nomem with
 |true=>owhen (o.op.argIds env=[]) (aop call env M o.op)
 |false=>match o.grow with
  |false=>aop call env M o.op
  |true=>obind (aop call env M o.op) fun x=>owhen (M <+: x.2∨(o.sep≠[]∧sepAll env M x.2 o.sep)) (some x)
noncomputable def aregion (call:CallF):List AOper→Env→AMem→Option (Env×AMem)
 | [],env,M=>some (env,M)
 |o::r,env,M =>
  match o.guard with
  |none=>obind (astep call o env M) fun x=>aregion call r (putS env o.dst x.1) x.2
  |some (t,want)=>match getS env t with
   | .bool b=>oif (b==want) (obind (astep call o env M) fun x=>aregion call r (putS env o.dst x.1) x.2)
    (aregion call r (putS env o.dst (.tuple [])) M)
   | .tuple []=>aregion call r (putS env o.dst (.tuple [])) M
   |_=>none
def keepS (env:Env) (live:List Nat):Env:=live.map fun t=>(t,getS env t)
open Classical in
noncomputable def lim {α:Type} (F:Nat→Option α):Option α:=if h:∃n,(F n).isSome=true then F (Classical.choose h) else none
structure Out where
 e:AExit
 env:Env
 mem:AMem
def goOn (o:Out) (k:Env→AMem→Option Out):Option Out:=match o.e with
 | .normal=>k o.env o.mem
 |_=>some o
def outOf (id:Nat) (o:Out):Out:=match o.e with
 | .exit i=>if i=id then ⟨.normal,o.env,o.mem⟩ else o
 |_=>o
def iter (f:Env→AMem→Option Out) (live:List Nat):Nat→Env→AMem→Option Out
 |0,_,_=>none
 |n+1,env,M=>obind (f (keepS env live) M) fun o=>goOn o fun e m=>iter f live n (backE M.length m (keepS e live)) (backM M.length m)
noncomputable def aexec (call:CallF):ACode→Env→AMem→Option Out
 | .skip,env,M=>some ⟨.normal,env,M⟩
 | .region ops _ live,env,M=>obind (aregion call ops env M) fun x=>some ⟨.normal,keepS x.1 live,x.2⟩
 | .seq a b,env,M=>obind (aexec call a env M) fun o=>goOn o (aexec call b)
 | .cond c x y,env,M=>match c.ev env with
  | .bool t=>oif t (aexec call x env M) (aexec call y env M)
  |_=>none
 | .block id c,env,M=>obind (aexec call c env M) fun o=>some (outOf id o)
 | .loop live c,env,M=>lim fun n=>iter (aexec call c) live n env M
 | .exit id,env,M=>some ⟨.exit id,env,M⟩
 | .ret,env,M=>some ⟨.ret,env,M⟩
inductive ARes where
 |tmp (t:Nat)
 |cellA (t n:Nat)
 |cell1 (t:Nat)
structure AFn where
 nparams:Nat
 results:List ARes
 body:ACode
def resOf (env:Env) (M:AMem):ARes→Option AVal
 | .tmp t=>some (getS env t)
 | .cellA t n=>match getS env t with
  | .ptr id off=>match nth M id with
   |some (.cells cs)=>if off+n≤cs.length then some (.agg ((cs.drop off).take n)) else none
   |_=>none
  |_=>none
 | .cell1 t=>match getS env t with
  | .ptr id off=>match nth M id with
   |some (.cells cs)=>nth cs off
   |_=>none
  |_=>none
def resAll (env:Env) (M:AMem):List ARes→Option (List AVal)
 | []=>some []
 |r::rs=>obind (resOf env M r) fun v=>obind (resAll env M rs) fun l=>some (v::l)
def one:List AVal→AVal
 | [v]=>v
 |l => .tuple l
def parsFrom:Nat→List AVal→Env
 |_,[]=>[]
 |i,v::r=>(i,v)::parsFrom (i+1) r
def finish (res:List ARes) (base:Nat) (o:Out):Option (AVal×AMem) :=
 match o.e with
 | .exit _=>none
 |_=>obind (resAll o.env o.mem res) fun l=>some ((one l).backR base o.mem,backM base o.mem)
structure Tab where
 code:Nat→Option AFn
 prim:Nat→Option (List AVal→AMem→Option (AVal×AMem))
noncomputable def acallN (T:Tab):Nat→CallF
 |0,f,args,M=>match T.prim f with
  |some g=>g args M
  |none=>none
 |n+1,f,args,M=>match T.prim f with
  |some g=>g args M
  |none=>match T.code f with
   |none=>none
   |some fn=>if args.length=fn.nparams then obind (aexec (acallN T n) fn.body (parsFrom 0 args) M) (finish fn.results M.length) else none
noncomputable def acall (T:Tab):CallF:=fun f args M=>lim fun n=>acallN T n f args M
end Go.Abs
namespace Go.Abs
open Go
theorem lim_some {α:Type} {F:Nat→Option α} (hm:∀n x,F n=some x→F (n+1)=some x) {n:Nat} {x:α} (h:F n=some x):lim F=some x:=by
 have up:∀k n x,F n=some x→F (n+k)=some x:=by
  intro k
  induction k with
  |zero=>intro n x h; exact h
  |succ k ih=>intro n x h; exact hm _ _ (ih n x h)
 unfold lim
 have hex:∃n,(F n).isSome=true:=⟨n,by simp [h]⟩
 rw [dif_pos hex]
 have hc:=Classical.choose_spec hex
 generalize Classical.choose hex=m at *
 obtain ⟨y,hy⟩:=Option.isSome_iff_exists.1 hc
 rcases Nat.le_total n m with hle|hle
 ·have:=up (m-n) n x h
  rw [show n+(m-n)=m by omega] at this
  exact this
 ·have:=up (n-m) m y hy
  rw [show m+(n-m)=n by omega,h] at this
  rw [hy,this]
theorem lim_ex {α:Type} {F:Nat→Option α} {x:α} (h:lim F=some x):∃n,F n=some x:=by
 unfold lim at h
 split at h
 ·exact ⟨_,h⟩
 ·cases h
def CallLe (C C':CallF):Prop:=∀f a M x,C f a M=some x→C' f a M=some x
theorem obind_inv {α β:Type} {x:Option α} {f:α→Option β} {y:β} (h:obind x f=some y):∃a,x=some a∧f a=some y:=by
 cases x with
 |none=>cases h
 |some a=>exact ⟨a,rfl,h⟩
theorem oif_inv {α:Type} {b:Bool} {x y:Option α} {z:α} (h:oif b x y=some z):(b=true∧x=some z)∨(b=false∧y=some z):=by
 cases b
 ·exact .inr ⟨rfl,h⟩
 ·exact .inl ⟨rfl,h⟩
theorem owhen_inv {α:Type} {p:Prop} {x:Option α} {z:α} (h:owhen p x=some z):p∧x=some z:=by
 unfold owhen at h
 split at h
 ·exact ⟨by assumption,h⟩
 ·cases h
theorem callOp_inv {C:CallF} {f:Nat} {vs:List AVal} {M:AMem} {x:AVal×AMem} (h:callOp C f vs M=some x) :
  ∃a B y,C f a B=some y∧∀C':CallF,C' f a B=some y→callOp C' f vs M=some x:=by
 unfold callOp at h
 split at h
 ·rename_i hf
  obtain ⟨B,hB,h⟩:=obind_inv h
  split at h
  ·rename_i hc
   obtain ⟨y,hy,h⟩:=obind_inv h
   refine ⟨_,B,y,hy,fun C' hC'=>?_⟩
   unfold callOp
   rw [if_pos hf,hB]
   simp only [obind_some]
   rw [if_pos hc,hC']
   exact h
  ·cases h
 ·cases h
theorem aop_inv {C:CallF} {env:Env} {M:AMem} {o:AOp} {x:AVal×AMem} (h:aop C env M o=some x) :
  (∀C':CallF,aop C' env M o=some x)∨∃f a B y,C f a B=some y∧∀C':CallF,C' f a B=some y→aop C' env M o=some x:=by
 cases o
 case call f args =>
  simp only [aop] at h ⊢
  obtain ⟨a,B,y,h1,h2⟩:=callOp_inv h
  exact .inr ⟨f,a,B,y,h1,h2⟩
 case callD f args=>exact .inr ⟨f,_,_,_,h,fun _ h'=>h'⟩
 case callF f args =>
  simp only [aop] at h ⊢
  obtain ⟨a,B,y,h1,h2⟩:=callOp_inv h
  exact .inr ⟨f,a,B,y,h1,h2⟩
 case callV f args =>
  simp only [aop] at h ⊢
  split at h
  ·rename_i g caps hg
   obtain ⟨a,B,y,h1,h2⟩:=callOp_inv h
   exact .inr ⟨g,a,B,y,h1,h2⟩
  ·rename_i g fs hg
   obtain ⟨a,B,y,h1,h2⟩:=callOp_inv h
   exact .inr ⟨g,a,B,y,h1,h2⟩
  ·cases h
 all_goals exact .inl fun _=>h
theorem aop_mono {C C':CallF} (hC:CallLe C C') {env:Env} {M:AMem} {o:AOp} {x:AVal×AMem} (h:aop C env M o=some x):aop C' env M o=some x:=by
 rcases aop_inv h with h|⟨f,a,B,y,h1,h2⟩
 ·exact h C'
 ·exact h2 C' (hC _ _ _ _ h1)
theorem astep_inv {C:CallF} {o:AOper} {env:Env} {M:AMem} {x:AVal×AMem} (h:astep C o env M=some x) :
  (o.nomem=true∧o.op.argIds env=[]∧aop C env M o.op=some x)∨(o.nomem=false∧o.grow=false∧aop C env M o.op=some x)∨(o.nomem=false∧o.grow=true∧(M <+: x.2∨(o.sep≠[]∧sepAll env M x.2 o.sep))∧aop C env M o.op=some x):=by
 unfold astep at h
 split at h
 ·obtain ⟨h1,h2⟩:=owhen_inv h
  exact .inl ⟨by assumption,h1,h2⟩
 ·split at h
  ·exact .inr (.inl ⟨by assumption,by assumption,h⟩)
  ·obtain ⟨y,hy,h⟩:=obind_inv h
   obtain ⟨h1,h2⟩:=owhen_inv h
   injection h2 with h2; subst h2
   exact .inr (.inr ⟨by assumption,by assumption,h1,hy⟩)
theorem astep_mono {C C':CallF} (hC:CallLe C C') {env:Env} {M:AMem} {o:AOper} {x:AVal×AMem} (h:astep C o env M=some x):astep C' o env M=some x:=by
 rcases astep_inv h with ⟨hn,hi,h1⟩|⟨hn,hg,h1⟩|⟨hn,hg,hp,h1⟩
 ·unfold astep; rw [hn,aop_mono hC h1]; exact owhen_pos hi
 ·unfold astep; rw [hn,hg]; exact aop_mono hC h1
 ·unfold astep; rw [hn,hg,aop_mono hC h1]; exact owhen_pos hp
theorem aregion_cons_inv {C:CallF} {o:AOper} {r:List AOper} {env:Env} {M:AMem} {x:Env×AMem} (h:aregion C (o::r) env M=some x) :
  (∃y,(∀t want,o.guard=some (t,want)→getS env t = .bool want)∧astep C o env M=some y∧aregion C r (putS env o.dst y.1) y.2=some x) ∨
  (∃t want,o.guard=some (t,want)∧(getS env t = .bool (!want)∨getS env t = .tuple [])∧aregion C r (putS env o.dst (.tuple [])) M=some x):=by
 unfold aregion at h
 split at h
 ·rename_i hg
  obtain ⟨y,hy,h⟩:=obind_inv h
  exact .inl ⟨y,fun t want h'=>(by rw [hg] at h'; cases h'),hy,h⟩
 ·rename_i t want hg
  split at h
  ·rename_i b hb
   rcases oif_inv h with ⟨h1,h2⟩|⟨h1,h2⟩
   ·obtain ⟨y,hy,h2⟩:=obind_inv h2
    refine .inl ⟨y,fun t' want' h'=>?_,hy,h2⟩
    rw [hg] at h'
    injection h' with h'
    injection h' with e1 e2
    subst e1; subst e2
    rw [hb]
    have:b=want:=by simpa using h1
    rw [this]
   ·refine .inr ⟨t,want,hg,.inl ?_,h2⟩
    rw [hb]
    cases b<;>cases want<;>simp_all
  ·rename_i hb
   exact .inr ⟨t,want,hg,.inr hb,h⟩
  ·cases h
theorem aregion_cons_yes {C:CallF} {o:AOper} {r:List AOper} {env:Env} {M:AMem} {y:AVal×AMem} (hg:∀t want,o.guard=some (t,want)→getS env t = .bool want)
  (hy:astep C o env M=some y):aregion C (o::r) env M=aregion C r (putS env o.dst y.1) y.2:=by
 rw [aregion]
 split
 ·rw [hy]; rfl
 ·rename_i t want h
  rw [hg t want h,hy]
  simp
theorem aregion_cons_no {C:CallF} {o:AOper} {r:List AOper} {env:Env} {M:AMem} {t:Nat} {want:Bool} (hg:o.guard=some (t,want))
  (hb:getS env t = .bool (!want)∨getS env t = .tuple []):aregion C (o::r) env M=aregion C r (putS env o.dst (.tuple [])) M:=by
 rw [aregion]
 simp only [hg]
 rcases hb with hb|hb
 ·rw [hb]; cases want<;>simp
 ·rw [hb]
theorem aregion_mono {C C':CallF} (hC:CallLe C C'):∀ {ops:List AOper} {env:Env} {M:AMem} {x:Env×AMem},aregion C ops env M=some x→aregion C' ops env M=some x
 | [],_,_,_,h=>h
 |o::r,env,M,x,h=>by
  rcases aregion_cons_inv h with ⟨y,h1,h2,h3⟩|⟨t,want,h1,h2,h3⟩
  ·rw [aregion_cons_yes h1 (astep_mono hC h2)]; exact aregion_mono hC h3
  ·rw [aregion_cons_no h1 h2]; exact aregion_mono hC h3
theorem goOn_inv {o:Out} {k:Env→AMem→Option Out} {x:Out} (h:goOn o k=some x):(o.e = .normal∧k o.env o.mem=some x)∨(o.e ≠ .normal∧x=o):=by
 unfold goOn at h
 split at h
 ·exact .inl ⟨by assumption,h⟩
 ·rename_i hn
  injection h with h
  exact .inr ⟨hn,h.symm⟩
theorem goOn_normal {o:Out} {k:Env→AMem→Option Out} (h:o.e = .normal):goOn o k=k o.env o.mem:=by unfold goOn; rw [h]
theorem goOn_out {o:Out} {k:Env→AMem→Option Out} (h:o.e ≠ .normal):goOn o k=some o:=by
 unfold goOn
 split
 ·rename_i h'; exact absurd h' h
 ·rfl
theorem goOn_mono {o:Out} {k k':Env→AMem→Option Out} {x:Out} (hk:∀env M x,k env M=some x→k' env M=some x) (h:goOn o k=some x):goOn o k'=some x:=by
 rcases goOn_inv h with ⟨h1,h2⟩|⟨h1,h2⟩
 ·rw [goOn_normal h1]; exact hk _ _ _ h2
 ·rw [goOn_out h1,h2]
theorem iter_mono {f g:Env→AMem→Option Out} (hfg:∀env M x,f env M=some x→g env M=some x) (live:List Nat):∀n {env M x},iter f live n env M=some x→iter g live n env M=some x
 |0,_,_,_,h=>h
 |n+1,env,M,x,h=>by
  rw [iter] at *
  obtain ⟨a,ha,h⟩:=obind_inv h
  rw [hfg _ _ _ ha]
  exact goOn_mono (fun env M x h=>iter_mono hfg live n h) h
theorem iter_up {f:Env→AMem→Option Out} (live:List Nat):∀n {env M x},iter f live n env M=some x→iter f live (n+1) env M=some x
 |0,_,_,_,h=>by cases h
 |n+1,env,M,x,h=>by
  rw [iter] at h ⊢
  obtain ⟨a,ha,h⟩:=obind_inv h
  rw [ha]
  exact goOn_mono (fun env M x h=>iter_up live n h) h
theorem aexec_mono {C C':CallF} (hC:CallLe C C'):∀(c:ACode) {env:Env} {M:AMem} {x:Out},aexec C c env M=some x→aexec C' c env M=some x
 | .skip,_,_,_,h=>h
 | .exit _,_,_,_,h=>h
 | .ret,_,_,_,h=>h
 | .region ops d live,env,M,x,h=>by
  simp only [aexec] at *
  obtain ⟨a,ha,h⟩:=obind_inv h
  rw [aregion_mono hC ha]; exact h
 | .seq a b,env,M,x,h=>by
  simp only [aexec] at *
  obtain ⟨o,ho,h⟩:=obind_inv h
  rw [aexec_mono hC a ho]
  exact goOn_mono (fun env M x=>aexec_mono hC b) h
 | .cond c a b,env,M,x,h=>by
  simp only [aexec] at *
  split
  ·rename_i t ht
   simp only [ht] at h
   rcases oif_inv h with ⟨rfl,h⟩|⟨rfl,h⟩
   ·exact aexec_mono hC a h
   ·exact aexec_mono hC b h
  ·rename_i ht
   split at h
   ·rename_i t ht'; exact absurd ht' (ht t)
   ·cases h
 | .block id c,env,M,x,h=>by
  simp only [aexec] at *
  obtain ⟨o,ho,h⟩:=obind_inv h
  rw [aexec_mono hC c ho]; exact h
 | .loop live c,env,M,x,h=>by
  simp only [aexec] at *
  obtain ⟨n,hn⟩:=lim_ex h
  exact lim_some (fun n x=>iter_up live n) (iter_mono (fun env M x=>aexec_mono hC c) live n hn)
theorem acallN_up (T:Tab):∀n,CallLe (acallN T n) (acallN T (n+1))
 |0,f,a,M,x,h=>by
  unfold acallN at *
  split
  ·rename_i g hg; simp only [hg] at h; exact h
  ·rename_i hg; simp only [hg] at h; cases h
 |n+1,f,a,M,x,h=>by
  rw [acallN] at h ⊢
  split
  ·rename_i g hg; simp only [hg] at h; exact h
  ·rename_i hg
   simp only [hg] at h
   split
   ·rename_i hf; simp only [hf] at h; cases h
   ·rename_i fn hf
    simp only [hf] at h
    split
    ·rename_i hl
     rw [if_pos hl] at h
     obtain ⟨o,ho,h⟩:=obind_inv h
     rw [aexec_mono (acallN_up T n) _ ho]
     exact h
    ·rename_i hl; rw [if_neg hl] at h; cases h
theorem acallN_le (T:Tab) {n m:Nat} (h:n≤m):CallLe (acallN T n) (acallN T m):=by
 obtain ⟨k,rfl⟩:=Nat.exists_eq_add_of_le h
 induction k with
 |zero=>exact fun _ _ _ _ h=>h
 |succ k ih=>exact fun f a M x hx=>acallN_up T (n+k) f a M x (ih (by omega) f a M x hx)
theorem astep_cont (T:Tab) {env:Env} {M:AMem} {o:AOper} {x:AVal×AMem} (h:astep (acall T) o env M=some x):∃n,astep (acallN T n) o env M=some x:=by
 have key:∀y,aop (acall T) env M o.op=some y→∃n,aop (acallN T n) env M o.op=some y:=by
  intro y hy
  rcases aop_inv hy with h|⟨f,a,B,z,h1,h2⟩
  ·exact ⟨0,h _⟩
  ·obtain ⟨n,hn⟩:=lim_ex h1
   exact ⟨n,h2 _ hn⟩
 rcases astep_inv h with ⟨hn,hi,h1⟩|⟨hn,hg,h1⟩|⟨hn,hg,hp,h1⟩<;>obtain ⟨n,h2⟩:=key _ h1
 ·exact ⟨n,by unfold astep; rw [hn,h2]; exact owhen_pos hi⟩
 ·exact ⟨n,by unfold astep; rw [hn,hg]; exact h2⟩
 ·exact ⟨n,by unfold astep; rw [hn,hg,h2]; exact owhen_pos hp⟩
theorem aregion_cont (T:Tab):∀ {ops:List AOper} {env:Env} {M:AMem} {x:Env×AMem},aregion (acall T) ops env M=some x→∃n,aregion (acallN T n) ops env M=some x
 | [],_,_,_,h=>⟨0,h⟩
 |o::r,env,M,x,h=>by
  rcases aregion_cons_inv h with ⟨y,h1,h2,h3⟩|⟨t,want,h1,h2,h3⟩
  ·obtain ⟨n,hn⟩:=astep_cont T h2
   obtain ⟨m,hm⟩:=aregion_cont T h3
   refine ⟨max n m,?_⟩
   rw [aregion_cons_yes h1 (astep_mono (acallN_le T (Nat.le_max_left n m)) hn)]
   exact aregion_mono (acallN_le T (Nat.le_max_right n m)) hm
  ·obtain ⟨m,hm⟩:=aregion_cont T h3
   exact ⟨m,by rw [aregion_cons_no h1 h2]; exact hm⟩
theorem aexec_cont (T:Tab):∀(c:ACode) {env:Env} {M:AMem} {x:Out},aexec (acall T) c env M=some x→∃n,aexec (acallN T n) c env M=some x
 | .skip,_,_,_,h=>⟨0,h⟩
 | .exit _,_,_,_,h=>⟨0,h⟩
 | .ret,_,_,_,h=>⟨0,h⟩
 | .region ops d live,env,M,x,h=>by
  simp only [aexec] at *
  obtain ⟨a,ha,h⟩:=obind_inv h
  obtain ⟨n,hn⟩:=aregion_cont T ha
  exact ⟨n,by rw [hn]; exact h⟩
 | .seq a b,env,M,x,h=>by
  simp only [aexec] at *
  obtain ⟨o,ho,h⟩:=obind_inv h
  obtain ⟨n,hn⟩:=aexec_cont T a ho
  rcases goOn_inv h with ⟨h1,h2⟩|⟨h1,h2⟩
  ·obtain ⟨m,hm⟩:=aexec_cont T b h2
   refine ⟨max n m,?_⟩
   rw [aexec_mono (acallN_le T (Nat.le_max_left n m)) a hn,obind_some,goOn_normal h1]
   exact aexec_mono (acallN_le T (Nat.le_max_right n m)) b hm
  ·exact ⟨n,by rw [hn,obind_some,goOn_out h1,h2]⟩
 | .cond c a b,env,M,x,h=>by
  simp only [aexec] at *
  split at h
  ·rename_i t ht
   rcases oif_inv h with ⟨rfl,h⟩|⟨rfl,h⟩
   ·obtain ⟨n,hn⟩:=aexec_cont T a h; exact ⟨n,hn⟩
   ·obtain ⟨n,hn⟩:=aexec_cont T b h; exact ⟨n,hn⟩
  ·cases h
 | .block id c,env,M,x,h=>by
  simp only [aexec] at *
  obtain ⟨o,ho,h⟩:=obind_inv h
  obtain ⟨n,hn⟩:=aexec_cont T c ho
  exact ⟨n,by rw [hn]; exact h⟩
 | .loop live c,env,M,x,h=>by
  simp only [aexec] at *
  obtain ⟨k,hk⟩:=lim_ex h
  have:∀k env M,iter (aexec (acall T) c) live k env M=some x→∃n,iter (aexec (acallN T n) c) live k env M=some x:=by
   intro k
   induction k with
   |zero=>intro env M h; cases h
   |succ k ih =>
    intro env M h
    rw [iter] at h
    obtain ⟨a,ha,h⟩:=obind_inv h
    obtain ⟨n,hn⟩:=aexec_cont T c ha
    rcases goOn_inv h with ⟨h1,h2⟩|⟨h1,h2⟩
    ·obtain ⟨m,hm⟩:=ih _ _ h2
     refine ⟨max n m,?_⟩
     rw [iter,aexec_mono (acallN_le T (Nat.le_max_left n m)) c hn,obind_some,goOn_normal h1]
     exact iter_mono (fun env M x=>aexec_mono (acallN_le T (Nat.le_max_right n m)) c) live k hm
    ·exact ⟨n,by rw [iter,hn,obind_some,goOn_out h1,h2]⟩
  obtain ⟨n,hn⟩:=this k env M hk
  exact ⟨n,lim_some (fun n x=>iter_up live n) hn⟩
theorem aexec_loop (C:CallF) (live:List Nat) (c:ACode) (env:Env) (M:AMem) :
  aexec C (.loop live c) env M=obind (aexec C c (keepS env live) M) fun o=>goOn o fun e m=>aexec C (.loop live c) (backE M.length m (keepS e live)) (backM M.length m):=by
 apply Option.ext
 intro x
 constructor
 ·intro h
  obtain ⟨n,hn⟩:=lim_ex (show lim (fun n=>iter (aexec C c) live n env M)=some x from h)
  cases n with
  |zero=>cases hn
  |succ n =>
   rw [iter] at hn
   obtain ⟨o,ho,hn⟩:=obind_inv hn
   rw [ho,obind_some]
   exact goOn_mono (fun env M x hx=>lim_some (fun n x=>iter_up live n) hx) hn
 ·intro h
  obtain ⟨o,ho,h⟩:=obind_inv h
  rcases goOn_inv h with ⟨h1,h2⟩|⟨h1,h2⟩
  ·obtain ⟨n,hn⟩:=lim_ex (show lim (fun n=>iter (aexec C c) live n (backE M.length o.mem (keepS o.env live)) (backM M.length o.mem))=some x from h2)
   refine lim_some (F:=fun n=>iter (aexec C c) live n env M) (n:=n+1) (fun n x=>iter_up live n) ?_
   show iter (aexec C c) live (n+1) env M=some x
   rw [iter,ho,obind_some,goOn_normal h1]
   exact hn
  ·refine lim_some (F:=fun n=>iter (aexec C c) live n env M) (n:=1) (fun n x=>iter_up live n) ?_
   show iter (aexec C c) live 1 env M=some x
   rw [iter,ho,obind_some,goOn_out h1,h2]
theorem acall_body {T:Tab} {f:Nat} {fn:AFn} {args:List AVal} {M:AMem} {x:AVal×AMem} (hp:T.prim f=none) (hc:T.code f=some fn) (hl:args.length=fn.nparams)
  (h:obind (aexec (acall T) fn.body (parsFrom 0 args) M) (finish fn.results M.length)=some x):acall T f args M=some x:=by
 obtain ⟨o,hb,hf⟩:=obind_inv h
 obtain ⟨n,hn⟩:=aexec_cont T fn.body hb
 refine lim_some (n:=n+1) (fun n x h=>acallN_up T n f args M x h) ?_
 rw [acallN]
 simp only [hp,hc,if_pos hl,hn,obind_some]
 exact hf
theorem acall_prim {T:Tab} {f:Nat} {g:List AVal→AMem→Option (AVal×AMem)} {args:List AVal} {M:AMem} {x:AVal×AMem} (hp:T.prim f=some g) (hg:g args M=some x):acall T f args M=some x:=by
 refine lim_some (n:=0) (fun n x h=>acallN_up T n f args M x h) ?_
 rw [acallN]
 simp only [hp,hg]
end Go.Abs
namespace Go.Abs
open Go Go.RowKit
def bs (s:List UInt8):ByteArray:=⟨s.toArray⟩
structure J where
 f:Nat→Option Nat
 X:Nat→Nat→Prop
instance:CoeFun J (fun _=>Nat→Option Nat):=⟨J.f⟩
structure Saf (j:J) (M:AMem) (w:World) (b off:Nat):Prop where
 lt:b<w.heap.size
 ids:∀id,id<M.length→j id=some b→∃sz n,M[id]?=some (.tick sz n)∧off<n*sz
 nx:¬j.X b off
inductive RepP (w:World) (saf:Nat→Nat→Prop):AVal→Value→Prop where
 |bool (b:Bool):RepP w saf (.bool b) (.bool b)
 |int (k:IntKind) (n:Int):RepP w saf (.int k n) (.int k n)
 |str (s:List UInt8):RepP w saf (.str s) (.string (bs s))
 |raw (v:Value) (h1:v.oneCell'=true):RepP w saf (.raw v) v
 |slice (xs:List AVal) (A:Option Addr) (len cap b off sz:Nat) (vs:Nat→Value) (hl:len=xs.length) (hc:len≤cap)
   (ha:xs≠[]→A=some ⟨b,off,none⟩) (hz:∀x,x∈xs→x.cells.length=sz)
   (hs:∀(i:Nat) (x:AVal) (k:Nat) (c:AVal),xs[i]?=some x→x.cells[k]?=some c→w.cell? ⟨b,off+(i*sz+k),none⟩=some (vs (i*sz+k))∧saf b (off+(i*sz+k)))
   (hr:∀(i:Nat) (x:AVal) (k:Nat) (c:AVal),xs[i]?=some x→x.cells[k]?=some c→RepP w saf c (vs (i*sz+k))):RepP w saf (.slice .sh xs) (.slice A len cap)
def TickT (j:J) (w:World) (k n t:Nat) (x:Bool) (v:Value):Prop :=
 (j k=none∧n=0∧∃A,v = .slice A 0 0∧(x=true→A=none)) ∨
 ∃b cap vs,0<n∧j k=some b∧v = .slice (some ⟨b,0,none⟩) n cap∧w.heap[b]?=some (.cells vs t (0,0))∧cap≤vs.size∧n≤cap
def TickV (j:J) (w:World) (k sz n:Nat) (v:Value):Prop :=
 (j k=none∧n=0∧∃A,v = .slice A 0 0) ∨
 ∃b cap vs t,j k=some b∧v = .slice (some ⟨b,0,none⟩) n cap∧w.heap[b]?=some (.cells vs t (0,0))∧cap*sz≤vs.size∧n≤cap
def RepD (w:World) (saf:Nat→Nat→Prop) (x:AVal) (v:Value):Prop :=
 match x with
 | .agg cs=>∃us:Array Value,v = .agg us∧cs.length=us.size∧∀(i:Nat) (c:AVal) (u:Value),cs[i]?=some c→us[i]?=some u→RepP w saf c u
 |x=>RepP w saf x v
inductive Rep (j:J) (M:AMem) (w:World):AVal→Value→Prop where
 |plain {x:AVal} {v:Value} (h:RepP w (Saf j M w) x v):Rep j M w x v
 |c0 (A:Option Addr):Rep j M w (.slice .c0 []) (.slice A 0 0)
 |own {k:Nat} {xs:List AVal} {v:Value} {sz n:Nat} (hk:M[k]?=some (.tick sz n)) (hn:xs.length≤n) (h:RepP w (Saf j M w) (.slice .sh xs) v)
   (ht:xs.length=n→TickV j w k sz n v):Rep j M w (.slice (.own k) xs) v
 |agg {cs:List AVal} {vs:Array Value} (hl:cs.length=vs.size) (h:∀(i:Nat) (c:AVal) (v:Value),cs[i]?=some c→vs[i]?=some v→Rep j M w c v):Rep j M w (.agg cs) (.agg vs)
 |tuple {cs:List AVal} {vs:Array Value} (hl:cs.length=vs.size) (h:∀(i:Nat) (c:AVal) (v:Value),cs[i]?=some c→vs[i]?=some v→Rep j M w c v):Rep j M w (.tuple cs) (.tuple vs)
 |ptr {id off b:Nat} (hid:id<M.length) (hc:∃cs,M[id]?=some (.cells cs)) (hj:j id=some b):Rep j M w (.ptr id off) (.pointer (some ⟨b,off,none⟩))
 |rptr {cs:List AVal} {b off:Nat} {vs:Nat→Value} (h:∀(k:Nat) (c:AVal),cs[k]?=some c→w.cell? ⟨b,off+k,none⟩=some (vs k)∧Saf j M w b (off+k)∧RepP w (Saf j M w) c (vs k)) :
   Rep j M w (.rptr cs) (.pointer (some ⟨b,off,none⟩))
 |func {f:Nat} {caps:List AVal} {vs:Array Value} (hl:caps.length=vs.size) (h:∀(i:Nat) (c:AVal) (v:Value),caps[i]?=some c→vs[i]?=some v→Rep j M w c v) :
   Rep j M w (.func f caps) (.func (.func f) #[] vs)
 |mref {id b:Nat} (hc:∃ks vs,M[id]?=some (.map ks vs)) (hj:j id=some b):Rep j M w (.mref id) (.map (some b))
 |iref {id b:Nat} (hc:∃s p,M[id]?=some (.siter s p)) (hj:j id=some b):Rep j M w (.iref id) (.pointer (some ⟨b,0,none⟩))
 |fmap {ks vs:List AVal} {b:Nat} {es:Array MapEntry} {clock:Nat} (hb:b<w.heap.size) (hf:∀i,i<M.length→j i≠some b) (hx:∀off,¬j.X b off) (hw:w.heap[b]?=some (.map es clock)) (hk:ks.length=es.size) (hv:vs.length=es.size)
   (hks:∀(i:Nat) (k:AVal) (e:MapEntry),ks[i]?=some k→es[i]?=some e→RepP w (Saf j M w) k e.key) (hvs:∀(i:Nat) (v:AVal) (e:MapEntry),vs[i]?=some v→es[i]?=some e→RepD w (Saf j M w) v e.val) :
   Rep j M w (.fmap ks vs) (.map (some b))
 |aref {id ver sz lo hi:Nat} {v:Value} (h0:∃b off c,v = .slice (some ⟨b,off,none⟩) (hi-lo) c∧hi-lo≤c) (hid:id<M.length) (hM:∀bx,M[id]?=some bx→bx.fixed=false)
   (hv:∀sz' v' xs,M[id]?=some (.arr sz' v' xs)→ver≤v'∧(v'=ver→sz'=sz∧lo≤hi∧hi≤xs.length∧∃b cap vs t,j id=some b∧v = .slice (some ⟨b,lo*sz,none⟩) (hi-lo) cap∧hi-lo≤cap∧w.heap[b]?=some (.cells vs t (0,0))∧(lo+cap)*sz≤vs.size)) :
   Rep j M w (.aref id ver sz lo hi) v
 |eptr {id ver i off:Nat} {v:Value} (h0:∃b o,v = .pointer (some ⟨b,o,none⟩)) (hid:id<M.length) (hM:∀bx,M[id]?=some bx→bx.fixed=false)
   (hv:∀sz v' xs,M[id]?=some (.arr sz v' xs)→ver≤v'∧(v'=ver→i<xs.length∧∃b,j id=some b∧v = .pointer (some ⟨b,i*sz+off,none⟩))) :
   Rep j M w (.eptr id ver i off) v
 |mfn {f:Nat} {fs:List AVal} {vs:Array Value} (hl:fs.length=vs.size) (h:∀(i:Nat) (c:AVal) (v:Value),fs[i]?=some c→vs[i]?=some v→RepD w (Saf j M w) c v):Rep j M w (.mfn f fs) (.func (.func f) vs #[])
 |bself {id t b:Nat} {v:Value} (hc:∃cs,M[id]?=some (.cells cs)) (hj:j id=some b) (hk:∃vs fr,w.heap[b]?=some (.cells vs t fr)) (hv:v = .pointer none∨v = .pointer (some ⟨b,0,none⟩)):Rep j M w (.bself id t) v
 |obuf {k t n:Nat} {x:Bool} {l:List UInt8} {v:Value} (hk:M[k]?=some (.tick 1 n)) (hn:l.length≤n) (h:RepP w (Saf j M w) (.slice .sh (l.map u8V)) v) (ht:l.length=n→TickT j w k n t x v):Rep j M w (.obuf k t x l) v
 |any (v:Value):Rep j M w .any v
def RC (j:J) (M:AMem) (w:World) (cs:List AVal) (vs:Array Value):Prop :=
 cs.length=vs.size∧∀(i:Nat) (c:AVal) (v:Value),cs[i]?=some c→vs[i]?=some v→Rep j M w c v
def Holds (j:J) (M:AMem) (w:World) (b:Nat):ABox→Prop
 | .cells cs=>∃vs t,w.heap[b]?=some (.cells vs t (0,0))∧RC j M w cs vs
 | .tick _ _=>True
 | .map ks vs=>∃es clock,w.heap[b]?=some (.map es clock)∧ks.length=es.size∧vs.length=es.size∧(∀(i:Nat) (k:AVal) (e:MapEntry),ks[i]?=some k→es[i]?=some e→RepP w (Saf j M w) k e.key) ∧
   ∀(i:Nat) (v:AVal) (e:MapEntry),vs[i]?=some v→es[i]?=some e→Rep j M w v e.val
 | .siter s pos=>w.heap[b]?=some (.stringIter (bs s) pos)
 | .arr _ _ _=>True
structure Rel (j:J) (M:AMem) (w:World):Prop where
 inj:∀i i' b,i<M.length→i'<M.length→j i=some b→j i'=some b→i=i'
 lt:∀i b,i<M.length→j i=some b→b<w.heap.size
 fix:∀i bx,M[i]?=some bx→bx.fixed=true→∃b,j i=some b∧Holds j M w b bx
 tick:∀i sz n b,M[i]?=some (.tick sz n)→j i=some b→∃vs t,w.heap[b]?=some (.cells vs t (0,0))
 arr:∀i sz ver xs,M[i]?=some (.arr sz ver xs)→∃b vs t,j i=some b∧w.heap[b]?=some (.cells vs t (0,0))∧xs.length*sz≤vs.size∧(∀x,x∈xs→x.cells.length=sz) ∧
  ∀(q:Nat) (x:AVal) (k:Nat) (c:AVal),xs[q]?=some x→x.cells[k]?=some c→∃v,vs[q*sz+k]?=some v∧RepP w (Saf j M w) c v
 xdis:∀i b,i<M.length→j i=some b→∀off,¬j.X b off
 xlt:∀b off,j.X b off→b<w.heap.size
theorem Rel.box {j:J} {M:AMem} {w:World} (h:Rel j M w) (i:Nat) (cs:List AVal) (hi:M[i]?=some (.cells cs)):∃b vs t,j i=some b∧w.heap[b]?=some (.cells vs t (0,0))∧cs.length=vs.size ∧
  ∀(q:Nat) (c:AVal) (v:Value),cs[q]?=some c→vs[q]?=some v→Rep j M w c v:=by
 obtain ⟨b,h1,vs,t,h2,h3⟩:=h.fix i _ hi rfl
 exact ⟨b,vs,t,h1,h2,h3.1,h3.2⟩
structure Ext (j:J) (M:AMem) (w:World) (j':J) (M':AMem) (w':World):Prop where
 len:M.length≤M'.length
 size:w.heap.size≤w'.heap.size
 os:w'.os=w.os
 tape:w'.tape=w.tape
 output:w'.output=w.output
 X:j'.X=j.X
 fix:∀i bx,M[i]?=some bx→bx.fixed=true→j' i=j i∧∃bx',M'[i]?=some bx'∧bx'.tag=bx.tag
 tick:∀i sz n,M[i]?=some (.tick sz n)→∃n',n≤n'∧M'[i]?=some (.tick sz n') ∧
  (n'=n→j' i=j i∧∀b vs t,j i=some b→w.heap[b]?=some (.cells vs t (0,0))→∃vs',w'.heap[b]?=some (.cells vs' t (0,0))∧vs'.size=vs.size)
 arr:∀i sz ver xs,M[i]?=some (.arr sz ver xs)→(∃n',M'[i]?=some (.tick sz n'))∨∃ver' xs',M'[i]?=some (.arr sz ver' xs')∧ver≤ver' ∧
  (ver'=ver→j' i=j i∧xs'.length=xs.length∧∀b vs t,j i=some b→w.heap[b]?=some (.cells vs t (0,0))→∃vs',w'.heap[b]?=some (.cells vs' t (0,0))∧vs'.size=vs.size)
 tags:∀(b:Nat) (vs:Array Value) (t:TypeId) (fr:Nat×Nat),w.heap[b]?=some (.cells vs t fr)→∃vs' fr',w'.heap[b]?=some (.cells vs' t fr')∧vs'.size=vs.size
 saf:∀b off,Saf j M w b off→Saf j' M' w' b off∧w'.cell? ⟨b,off,none⟩=w.cell? ⟨b,off,none⟩
 old:∀b,b<w.heap.size→(∀i,i<M.length→j i≠some b)→w'.heap[b]?=w.heap[b]?∧∀i,i<M'.length→j' i≠some b
theorem tag_fixed {a b:ABox} (h:b.tag=a.tag) (ha:a.fixed=true):b.fixed=true:=by
 cases a<;>cases b<;>simp [ABox.tag,ABox.fixed] at * <;> omega
theorem tag_cells {b:ABox} (h:b.tag=0):∃cs,b = .cells cs:=by cases b<;>simp [ABox.tag] at h; exact ⟨_,rfl⟩
theorem tag_map {b:ABox} (h:b.tag=1):∃ks vs,b = .map ks vs:=by cases b<;>simp [ABox.tag] at h; exact ⟨_,_,rfl⟩
theorem tag_siter {b:ABox} (h:b.tag=2):∃s p,b = .siter s p:=by cases b<;>simp [ABox.tag] at h; exact ⟨_,_,rfl⟩
theorem RepP.mono {w w':World} {saf saf':Nat→Nat→Prop} (h:∀b off,saf b off→saf' b off∧w'.cell? ⟨b,off,none⟩=w.cell? ⟨b,off,none⟩)
  {x:AVal} {v:Value} (hr:RepP w saf x v):RepP w' saf' x v:=by
 induction hr with
 |bool b=>exact .bool b
 |int k n=>exact .int k n
 |str s=>exact .str s
 |raw v h1=>exact .raw v h1
 |slice xs A len cap b off sz vs hl hc ha hz hs _ ih =>
  refine .slice xs A len cap b off sz vs hl hc ha hz (fun i x k c hx hk=>?_) ih
  obtain ⟨h1,h2⟩:=hs i x k c hx hk
  obtain ⟨h3,h4⟩:=h _ _ h2
  exact ⟨h4.trans h1,h3⟩
theorem RepD.mono {w w':World} {saf saf':Nat→Nat→Prop} (h:∀b off,saf b off→saf' b off∧w'.cell? ⟨b,off,none⟩=w.cell? ⟨b,off,none⟩)
  {x:AVal} {v:Value} (hr:RepD w saf x v):RepD w' saf' x v:=by
 by_cases hag:∃cs,x = .agg cs
 ·obtain ⟨cs,rfl⟩:=hag
  obtain ⟨us,h1,h2,h3⟩:=hr
  exact ⟨us,h1,h2,fun i c u hc hu=>(h3 i c u hc hu).mono h⟩
 ·cases x<;>first|exact absurd ⟨_,rfl⟩ hag|exact RepP.mono h hr
section
variable {j j' j'':J} {M M' M'':AMem} {w w' w'':World}
theorem TickT.mono {k n t:Nat} {x:Bool} {v:Value} (h:TickT j w k n t x v) (hj:j' k=j k)
  (hb:∀b vs t,j k=some b→w.heap[b]?=some (.cells vs t (0,0))→∃vs',w'.heap[b]?=some (.cells vs' t (0,0))∧vs'.size=vs.size):TickT j' w' k n t x v:=by
 rcases h with ⟨h1,h2,h3⟩|⟨b,cap,vs,h0,h1,h2,h3,h4,h5⟩
 ·exact .inl ⟨hj.trans h1,h2,h3⟩
 ·obtain ⟨vs',h6,h7⟩:=hb b vs t h1 h3
  exact .inr ⟨b,cap,vs',h0,hj.trans h1,h2,h6,by omega,h5⟩
theorem TickV.mono {k sz n:Nat} {v:Value} (h:TickV j w k sz n v) (hj:j' k=j k)
  (hb:∀b vs t,j k=some b→w.heap[b]?=some (.cells vs t (0,0))→∃vs',w'.heap[b]?=some (.cells vs' t (0,0))∧vs'.size=vs.size):TickV j' w' k sz n v:=by
 rcases h with ⟨h1,h2,h3⟩|⟨b,cap,vs,t,h1,h2,h3,h4,h5⟩
 ·exact .inl ⟨hj.trans h1,h2,h3⟩
 ·obtain ⟨vs',h6,h7⟩:=hb b vs t h1 h3
  exact .inr ⟨b,cap,vs',t,hj.trans h1,h2,h6,by omega,h5⟩
theorem Ext.loose (hx:Ext j M w j' M' w') {id:Nat} (hid:id<M.length) (hM:∀bx,M[id]?=some bx→bx.fixed=false):(∀bx,M'[id]?=some bx→bx.fixed=false) ∧
  ∀sz v' xs,M'[id]?=some (.arr sz v' xs)→∃v0 xs0,M[id]?=some (.arr sz v0 xs0)∧v0≤v' ∧
   (v'=v0→j' id=j id∧xs.length=xs0.length∧∀b vs t,j id=some b→w.heap[b]?=some (.cells vs t (0,0))→∃vs',w'.heap[b]?=some (.cells vs' t (0,0))∧vs'.size=vs.size):=by
 have h0:=List.getElem?_eq_getElem hid
 have hf:=hM _ h0
 generalize M[id]=bx at h0 hf
 cases bx with
 |cells=>cases hf
 |map=>cases hf
 |siter=>cases hf
 |tick sz n =>
  obtain ⟨n',h1,h2,h3⟩:=hx.tick _ _ _ h0
  refine ⟨fun bx hb=>?_,fun sz v' xs h=>?_⟩
  ·rw [h2] at hb; injection hb with hb; subst hb; rfl
  ·rw [h2] at h; cases h
 |arr sz v xs =>
  rcases hx.arr _ _ _ _ h0 with ⟨n',h2⟩|⟨v1,xs1,h2,h3,h4⟩
  ·refine ⟨fun bx hb=>?_,fun sz v' xs h=>?_⟩
   ·rw [h2] at hb; injection hb with hb; subst hb; rfl
   ·rw [h2] at h; cases h
  ·refine ⟨fun bx hb=>?_,fun sz' v' xs' h=>?_⟩
   ·rw [h2] at hb; injection hb with hb; subst hb; rfl
   ·rw [h2] at h; injection h with h; injection h with e1 e2 e3
    subst e1; subst e2; subst e3
    exact ⟨v,xs,h0,h3,h4⟩
theorem Rep.mono (hx:Ext j M w j' M' w') {x:AVal} {v:Value} (hr:Rep j M w x v):Rep j' M' w' x v:=by
 induction hr with
 |plain h=>exact .plain (h.mono hx.saf)
 |c0 A=>exact .c0 A
 |own hk hn h ht =>
  obtain ⟨n',h1,h2,h3⟩:=hx.tick _ _ _ hk
  refine .own h2 (by omega) (h.mono hx.saf) (fun he=>?_)
  have:n'=_:=Nat.le_antisymm (by omega) h1
  obtain ⟨h4,h5⟩:=h3 this
  subst this
  exact (ht he).mono h4 h5
 |agg hl _ ih=>exact .agg hl ih
 |tuple hl _ ih=>exact .tuple hl ih
 |ptr hid hc hj =>
  obtain ⟨cs,hc⟩:=hc
  obtain ⟨h1,bx,h2,h3⟩:=hx.fix _ _ hc rfl
  obtain ⟨cs',rfl⟩:=tag_cells h3
  exact .ptr (Nat.lt_of_lt_of_le hid hx.len) ⟨_,h2⟩ (h1.trans hj)
 | @rptr cs b off vs h =>
  refine .rptr (vs:=vs) fun k c hk=>?_
  obtain ⟨h1,h2,h3⟩:=h k c hk
  obtain ⟨h4,h5⟩:=hx.saf _ _ h2
  exact ⟨h5.trans h1,h4,h3.mono hx.saf⟩
 |func hl _ ih=>exact .func hl ih
 |mref hc hj =>
  obtain ⟨ks,vs,hc⟩:=hc
  obtain ⟨h1,bx,h2,h3⟩:=hx.fix _ _ hc rfl
  obtain ⟨ks',vs',rfl⟩:=tag_map h3
  exact .mref ⟨_,_,h2⟩ (h1.trans hj)
 |iref hc hj =>
  obtain ⟨ks,vs,hc⟩:=hc
  obtain ⟨h1,bx,h2,h3⟩:=hx.fix _ _ hc rfl
  obtain ⟨ks',vs',rfl⟩:=tag_siter h3
  exact .iref ⟨_,_,h2⟩ (h1.trans hj)
 |fmap hb hf hxx hw hk hv hks hvs =>
  obtain ⟨h1,h2⟩:=hx.old _ hb hf
  exact .fmap (Nat.lt_of_lt_of_le hb hx.size) h2 (by rw [hx.X]; exact hxx) (h1.trans hw) hk hv (fun i k e h1 h2=>(hks i k e h1 h2).mono hx.saf) (fun i k e h1 h2=>(hvs i k e h1 h2).mono hx.saf)
 |aref hs hid hM hv =>
  obtain ⟨g1,g2⟩:=hx.loose hid hM
  refine .aref hs (Nat.lt_of_lt_of_le hid hx.len) g1 fun sz v' xs h=>?_
  obtain ⟨v0,xs0,h0,h1,h2⟩:=g2 sz v' xs h
  obtain ⟨h3,h4⟩:=hv sz v0 xs0 h0
  refine ⟨by omega,fun he=>?_⟩
  obtain ⟨h5,h6,h7⟩:=h2 (by omega)
  obtain ⟨l0,l1,l2,b,cap,vs,t,l3,l4,l5,l6,l7⟩:=h4 (by omega)
  obtain ⟨vs',l8,l9⟩:=h7 b vs t l3 l6
  exact ⟨l0,l1,by omega,b,cap,vs',t,h5.trans l3,l4,l5,l8,by omega⟩
 |eptr hs hid hM hv =>
  obtain ⟨g1,g2⟩:=hx.loose hid hM
  refine .eptr hs (Nat.lt_of_lt_of_le hid hx.len) g1 fun sz v' xs h=>?_
  obtain ⟨v0,xs0,h0,h1,h2⟩:=g2 sz v' xs h
  obtain ⟨h3,h4⟩:=hv sz v0 xs0 h0
  refine ⟨by omega,fun he=>?_⟩
  obtain ⟨h5,h6,h7⟩:=h2 (by omega)
  obtain ⟨l1,b,l3,l4⟩:=h4 (by omega)
  exact ⟨by omega,b,h5.trans l3,l4⟩
 |mfn hl h=>exact .mfn hl fun i c v hc hv=>(h i c v hc hv).mono hx.saf
 |bself hc hj hk hv =>
  obtain ⟨cs,hc⟩:=hc
  obtain ⟨h1,bx,h2,h3⟩:=hx.fix _ _ hc rfl
  obtain ⟨cs',rfl⟩:=tag_cells h3
  obtain ⟨vs,fr,hk⟩:=hk
  obtain ⟨vs2,fr2,hk2,_⟩:=hx.tags _ _ _ _ hk
  exact .bself ⟨_,h2⟩ (h1.trans hj) ⟨vs2,fr2,hk2⟩ hv
 |obuf hk hn h ht =>
  obtain ⟨n',h1,h2,h3⟩:=hx.tick _ _ _ hk
  refine .obuf h2 (by omega) (h.mono hx.saf) (fun he=>?_)
  have:n'=_:=Nat.le_antisymm (by omega) h1
  obtain ⟨h4,h5⟩:=h3 this
  subst this
  exact (ht he).mono h4 h5
 |any v=>exact .any v
theorem Holds.mono {b:Nat} {bx:ABox} (hx:Ext j M w j' M' w') (hb:w'.heap[b]?=w.heap[b]?) (h:Holds j M w b bx):Holds j' M' w' b bx:=by
 cases bx with
 |cells cs =>
  obtain ⟨vs,t,h1,h2,h3⟩:=h
  exact ⟨vs,t,hb.trans h1,h2,fun i c v hc hv=>(h3 i c v hc hv).mono hx⟩
 |tick=>trivial
 |map ks vs =>
  obtain ⟨es,clock,h1,h2,h3,h4,h5⟩:=h
  exact ⟨es,clock,hb.trans h1,h2,h3,fun i k e hk he=>(h4 i k e hk he).mono hx.saf,fun i k e hk he=>(h5 i k e hk he).mono hx⟩
 |siter s pos=>exact hb.trans h
 |arr=>trivial
theorem Holds.lt {b:Nat} {bx:ABox} (h:Holds j M w b bx) (hf:bx.fixed=true):∃o,w.heap[b]?=some o:=by
 cases bx with
 |cells cs=>obtain ⟨vs,t,h1,_⟩:=h; exact ⟨_,h1⟩
 |tick=>cases hf
 |map ks vs=>obtain ⟨es,clock,h1,_⟩:=h; exact ⟨_,h1⟩
 |siter s pos=>exact ⟨_,h⟩
 |arr=>cases hf
theorem Ext.refl (j:J) (M:AMem) (w:World):Ext j M w j M w where
 len:=Nat.le_refl _
 size:=Nat.le_refl _
 os:=rfl
 tape:=rfl
 output:=rfl
 X:=rfl
 fix:=fun i bx h _=>⟨rfl,bx,h,rfl⟩
 tick:=fun i sz n h=>⟨n,Nat.le_refl _,h,fun _=>⟨rfl,fun b vs t _ h=>⟨vs,h,rfl⟩⟩⟩
 arr:=fun i sz v xs h => .inr ⟨v,xs,h,Nat.le_refl _,fun _=>⟨rfl,rfl,fun b vs t _ h=>⟨vs,h,rfl⟩⟩⟩
 tags:=fun b vs t fr h=>⟨vs,fr,h,rfl⟩
 saf:=fun b off h=>⟨h,rfl⟩
 old:=fun b hb h=>⟨rfl,h⟩
theorem Ext.trans (h:Ext j M w j' M' w') (k:Ext j' M' w' j'' M'' w''):Ext j M w j'' M'' w'' where
 len:=Nat.le_trans h.len k.len
 size:=Nat.le_trans h.size k.size
 os:=k.os.trans h.os
 tape:=k.tape.trans h.tape
 output:=k.output.trans h.output
 X:=k.X.trans h.X
 fix:=fun i bx hi hf=>by
  obtain ⟨h1,bx',h2,h3⟩:=h.fix i bx hi hf
  have hf':bx'.fixed=true:=tag_fixed h3 hf
  obtain ⟨h4,bx'',h5,h6⟩:=k.fix i bx' h2 hf'
  exact ⟨h4.trans h1,bx'',h5,h6.trans h3⟩
 tick:=fun i sz n hi=>by
  obtain ⟨n1,a1,a2,a3⟩:=h.tick i sz n hi
  obtain ⟨n2,b1,b2,b3⟩:=k.tick i sz n1 a2
  refine ⟨n2,by omega,b2,fun he=>?_⟩
  obtain ⟨c1,c2⟩:=a3 (by omega)
  obtain ⟨d1,d2⟩:=b3 (by omega)
  refine ⟨d1.trans c1,fun b vs t hb hv=>?_⟩
  obtain ⟨vs',e1,e2⟩:=c2 b vs t hb hv
  obtain ⟨vs'',f1,f2⟩:=d2 b vs' t (c1.trans hb) e1
  exact ⟨vs'',f1,by omega⟩
 arr:=fun i sz v xs hi=>by
  rcases h.arr i sz v xs hi with ⟨n1,a1⟩|⟨v1,xs1,a1,a2,a3⟩
  ·obtain ⟨n2,_,b2,_⟩:=k.tick i sz n1 a1
   exact .inl ⟨n2,b2⟩
  ·rcases k.arr i sz v1 xs1 a1 with ⟨n2,b1⟩|⟨v2,xs2,b1,b2,b3⟩
   ·exact .inl ⟨n2,b1⟩
   ·refine .inr ⟨v2,xs2,b1,by omega,fun he=>?_⟩
    obtain ⟨c1,c2,c3⟩:=a3 (by omega)
    obtain ⟨d1,d2,d3⟩:=b3 (by omega)
    refine ⟨d1.trans c1,by omega,fun b vs t hb hv=>?_⟩
    obtain ⟨vs',e1,e2⟩:=c3 b vs t hb hv
    obtain ⟨vs'',f1,f2⟩:=d3 b vs' t (c1.trans hb) e1
    exact ⟨vs'',f1,by omega⟩
 tags:=fun b vs t fr hb=>by
  obtain ⟨vs1,fr1,h1,h2⟩:=h.tags b vs t fr hb
  obtain ⟨vs2,fr2,h3,h4⟩:=k.tags b vs1 t fr1 h1
  exact ⟨vs2,fr2,h3,h4.trans h2⟩
 saf:=fun b off hs=>by
  obtain ⟨h1,h2⟩:=h.saf b off hs
  obtain ⟨h3,h4⟩:=k.saf b off h1
  exact ⟨h3,h4.trans h2⟩
 old:=fun b hb hn=>by
  obtain ⟨h1,h2⟩:=h.old b hb hn
  obtain ⟨h3,h4⟩:=k.old b (Nat.lt_of_lt_of_le hb h.size) h2
  exact ⟨h3.trans h1,h4⟩
theorem Ext.grow (hsz:w.heap.size≤w'.heap.size) (hos:w'.os=w.os) (ht:w'.tape=w.tape) (ho:w'.output=w.output)
  (hb:∀b,b<w.heap.size→w'.heap[b]?=w.heap[b]?):Ext j M w j M w' where
 len:=Nat.le_refl _
 size:=hsz
 os:=hos
 tape:=ht
 output:=ho
 X:=rfl
 fix:=fun i bx h _=>⟨rfl,bx,h,rfl⟩
 tick:=fun i sz n h=>⟨n,Nat.le_refl _,h,fun _=>⟨rfl,fun b vs t _ hv=>by
  have hlt:b<w.heap.size:=by
   rcases Nat.lt_or_ge b w.heap.size with h|h
   ·exact h
   ·rw [Array.getElem?_eq_none h] at hv; cases hv
  exact ⟨vs,(hb b hlt).trans hv,rfl⟩⟩⟩
 arr:=fun i sz v xs h => .inr ⟨v,xs,h,Nat.le_refl _,fun _=>⟨rfl,rfl,fun b vs t _ hv=>by
  have hlt:b<w.heap.size:=by
   rcases Nat.lt_or_ge b w.heap.size with h|h
   ·exact h
   ·rw [Array.getElem?_eq_none h] at hv; cases hv
  exact ⟨vs,(hb b hlt).trans hv,rfl⟩⟩⟩
 tags:=fun b vs t fr h=>by
  have hlt:b<w.heap.size:=by
   rcases Nat.lt_or_ge b w.heap.size with h'|h'
   ·exact h'
   ·rw [Array.getElem?_eq_none h'] at h; cases h
  exact ⟨vs,fr,(hb b hlt).trans h,rfl⟩
 saf:=fun b off h=>⟨⟨Nat.lt_of_lt_of_le h.1 hsz,h.2,h.3⟩,World.cell?_of_block (w:=w) (hb b h.1)⟩
 old:=fun b hlt h=>⟨hb b hlt,h⟩
theorem Rel.grow (hr:Rel j M w) (hsz:w.heap.size≤w'.heap.size) (hos:w'.os=w.os) (ht:w'.tape=w.tape) (ho:w'.output=w.output)
  (hb:∀b,b<w.heap.size→w'.heap[b]?=w.heap[b]?):Rel j M w' where
 inj:=hr.inj
 lt:=fun i b hi h=>Nat.lt_of_lt_of_le (hr.lt i b hi h) hsz
 fix:=fun i bx h hf=>by
  obtain ⟨b,h1,h2⟩:=hr.fix i bx h hf
  have hi:i<M.length:=(List.getElem?_eq_some_iff.1 h).1
  exact ⟨b,h1,h2.mono (Ext.grow hsz hos ht ho hb) (hb b (hr.lt i b hi h1))⟩
 tick:=fun i sz n b h hj=>by
  obtain ⟨vs,t,h1⟩:=hr.tick i sz n b h hj
  have hi:i<M.length:=(List.getElem?_eq_some_iff.1 h).1
  exact ⟨vs,t,(hb b (hr.lt i b hi hj)).trans h1⟩
 arr:=fun i sz v xs h=>by
  obtain ⟨b,vs,t,h1,h2,h3,h4,h5⟩:=hr.arr i sz v xs h
  have hi:i<M.length:=(List.getElem?_eq_some_iff.1 h).1
  refine ⟨b,vs,t,h1,(hb b (hr.lt i b hi h1)).trans h2,h3,h4,fun q x k c hx hk=>?_⟩
  obtain ⟨u,h6,h7⟩:=h5 q x k c hx hk
  exact ⟨u,h6,h7.mono (Ext.grow (j:=j) (M:=M) hsz hos ht ho hb).saf⟩
 xdis:=hr.xdis
 xlt:=fun b off h=>Nat.lt_of_lt_of_le (hr.xlt b off h) hsz
end
class Globs where
 g:Nat→Option (List Value)
 q:Nat→Option (Value→Prop):=fun _=>none
 u8:Nat:=0
structure Glob [Globs] (j:J) (M:AMem) (w:World):Prop where
 g:∀b vs k v,Globs.g b=some vs→vs[k]?=some v→Saf j M w b k∧w.cell? ⟨b,k,none⟩=some v
 n:∀b vs,Globs.g b=some vs→∃us t fr,w.heap[b]?=some (.cells us t fr)∧us.size=vs.length
 q:∀b p,Globs.q b=some p→∃v,p v∧Saf j M w b 0∧w.cell? ⟨b,0,none⟩=some v
theorem Glob.saf [Globs] {j j':J} {M M':AMem} {w:World} (h:Glob j M w) (hx:∀b off,Saf j M w b off→Saf j' M' w b off):Glob j' M' w where
 g:=fun b vs k v hb hk=>⟨hx _ _ (h.g b vs k v hb hk).1,(h.g b vs k v hb hk).2⟩
 n:=h.n
 q:=fun b p hb=>by
  obtain ⟨v,h0,h1,h2⟩:=h.q b p hb
  exact ⟨v,h0,hx _ _ h1,h2⟩
theorem Glob.mono [Globs] {j j':J} {M M':AMem} {w w':World} (h:Glob j M w) (hx:Ext j M w j' M' w'):Glob j' M' w' where
 g:=fun b vs k v hb hk=>by
  obtain ⟨h1,h2⟩:=h.g b vs k v hb hk
  obtain ⟨h3,h4⟩:=hx.saf _ _ h1
  exact ⟨h3,h4.trans h2⟩
 n:=fun b vs hb=>by
  obtain ⟨us,t,fr,h1,h2⟩:=h.n b vs hb
  obtain ⟨us',fr',h3,h4⟩:=hx.tags b us t fr h1
  exact ⟨us',t,fr',h3,h4.trans h2⟩
 q:=fun b p hb=>by
  obtain ⟨v,h0,h1,h2⟩:=h.q b p hb
  obtain ⟨h3,h4⟩:=hx.saf _ _ h1
  exact ⟨v,h0,h3,h4.trans h2⟩
variable [Globs]
structure EnvRep (j:J) (M:AMem) (w:World) (env:Env) (a:Act):Prop where
 at':∀t,Rep j M w (getS env t) (a.tmps.getD t undef)
 gl:Glob j M w
theorem EnvRep.mono {j j':J} {M M':AMem} {w w':World} {env:Env} {a:Act} (h:EnvRep j M w env a) (hx:Ext j M w j' M' w'):EnvRep j' M' w' env a :=
 ⟨fun t=>(h.at' t).mono hx,h.gl.mono hx⟩
theorem EnvRep.put {j:J} {M:AMem} {w:World} {env:Env} {a:Act} {n:Nat} (h:EnvRep j M w env a) (hs:a.tmps.size=n) {dst:Option Nat} (hd:∀d,dst=some d→d<n)
  {x:AVal} {v:Value} (hv:Rep j M w x v):EnvRep j M w (putS env dst x) (a.put dst v):=by
 refine ⟨fun t=>?_,h.gl⟩
 cases dst with
 |none=>exact h.at' t
 |some d =>
  have hd':=hd d rfl
  simp only [putS,getS,Act.put]
  by_cases he:d=t
  ·subst he
   rw [if_pos rfl]
   simpa [Array.getD_eq_getD_getElem?,Array.getElem?_setIfInBounds_self,hs,hd'] using hv
  ·rw [if_neg he]
   have:=h.at' t
   simpa [Array.getD_eq_getD_getElem?,Array.getElem?_setIfInBounds_ne he] using this
theorem getS_keepS (env:Env) (live:List Nat) (t:Nat):getS (keepS env live) t=if t∈live then getS env t else .any:=by
 induction live with
 |nil=>simp [keepS,getS]
 |cons l r ih =>
  simp only [keepS,List.map_cons,getS] at *
  by_cases h:l=t
  ·subst h; simp
  ·rw [if_neg h,ih]
   have:(t∈l::r)↔t∈r:=by simp [Ne.symm h]
   simp only [this]
theorem EnvRep.keep {j:J} {M:AMem} {w:World} {env:Env} {a:Act} (h:EnvRep j M w env a) (live:List Nat):EnvRep j M w (keepS env live) a:=by
 refine ⟨fun t=>?_,h.gl⟩
 rw [getS_keepS]
 split
 ·exact h.at' t
 ·exact .any _
end Go.Abs
namespace Go.Abs
open Go
def absV:Value→Option AVal
 | .bool b=>some (.bool b)
 | .int k n=>some (.int k n)
 | .string s=>some (.str s.data.toList)
 | .slice none 0 0=>some (.slice .c0 [])
 | .pointer none=>some (.raw (.pointer none))
 | .nilFunc=>some (.raw .nilFunc)
 | .nilIface=>some (.raw .nilIface)
 | .map none=>some (.raw (.map none))
 |_=>none
def absL:List Value→Option (List AVal)
 | []=>some []
 |v::r=>(absV v).bind fun x=>(absL r).bind fun l=>some (x::l)
def absT:Value→Option AVal
 | .agg vs=>(absL vs.toList).bind fun l=>some (.agg l)
 |v=>absV v
def absP1:Value→Option AVal
 | .bool b=>some (.bool b)
 | .int k n=>some (.int k n)
 | .string s=>some (.str s.data.toList)
 | .pointer none=>some (.raw (.pointer none))
 | .nilIface=>some (.raw .nilIface)
 |_=>none
def absP:List Value→Option (List AVal)
 | []=>some []
 |v::r=>(absP1 v).bind fun x=>(absP r).bind fun l=>some (x::l)
variable [Globs]
def cOpd:Operand→Option Opd
 | .tmp t=>some (.tmp t)
 | .const v=>(absT v).bind fun x=>some (.cst x)
 | .func f=>some (.cst (.func f []))
 | .global g=>(Globs.g g).bind fun vs=>(absP vs).bind fun l=>some (.cst (.rptr l))
def cOpds:List Operand→Option (List Opd)
 | []=>some []
 |x::r=>(cOpd x).bind fun y=>(cOpds r).bind fun l=>some (y::l)
def cOpt:Option Operand→Option (Option Opd)
 |none=>some none
 |some x=>(cOpd x).bind fun y=>some (some y)
def szOf (P:Program) (t:TypeId):Option Nat:=(P.info? t).bind fun i=>some i.size
def aggQ (P:Program) (t:TypeId):Option Bool:=(P.underlying t).bind fun d=>some (match d with | .struct _ | .array _ _=>true|_=>false)
def cParts (P:Program) (fs:Array Field):List (Nat×Operand)→Option (List (Nat×Nat×Opd))
 | []=>some []
 |(i,x)::r=>(fs[i]?).bind fun f=>(szOf P f.type).bind fun n=>(cOpd x).bind fun y=>(cParts P fs r).bind fun l=>some ((f.offset,n,y)::l)
def cRow:Nat→List (Nat×Operand)→Option (List Opd)
 |_,[]=>some []
 |k,(i,x)::r=>if i=k then (cOpd x).bind fun y=>(cRow (k+1) r).bind fun l=>some (y::l) else none
def fkOf (P:Program) (f:Field):Option FK:=if f.name = "_" then none else match P.underlying f.type with
 |some .bool=>some .b
 |some (.int _)=>some .i
 |some .string=>some .s
 |_=>none
def fksOf (P:Program):Nat→List Field→Option (List FK)
 |_,[]=>some []
 |k,f::r=>if f.offset=k then (fkOf P f).bind fun x=>(fksOf P (k+1) r).bind fun l=>some (x::l) else none
def keyFK (P:Program) (t:TypeId):Option FK:=match P.underlying t with
 |some .bool=>some .b
 |some (.int _)=>some .i
 |some .string=>some .s
 |_=>none
def cBin:BinOp→Option ABin
 | .and=>some .and | .or=>some .or | .xor=>some .xor
 | .add=>some .add | .sub=>some .sub | .mul=>some .mul | .quo=>some .quo | .rem=>some .rem
 | .eql=>some .eql | .neq=>some .neq | .lss=>some .lss | .leq=>some .leq | .gtr=>some .gtr | .geq=>some .geq
 | .shl=>some .shl | .shr=>some .shr
 |_=>none
def enterable (P:Program) (f:Nat):Bool:=match P.funcs[f]? with|some fn=>fn.name != "runtime.NumGoroutine" && fn.body.isSome|none=>false
def cCall (P:Program) (own:List Nat) (type:TypeId) (c:Call):Option AOp :=
 match c.callee with
 | .value (.func f)=>if enterable P f then (cOpds c.args.toList).bind fun l=>some (if own.contains (1000000+f) then .callD f l else if own.contains (2000000+f) then .callF f l else .call f l) else none
 | .value (.tmp t)=>(cOpds c.args.toList).bind fun l=>some (.callV (.tmp t) l)
 | .builtin .len=>match c.args.toList,(c.argTypes[0]?).bind P.underlying with
  | [x],some .string=>(cOpd x).bind fun y=>some (.lenS y)
  | [x],some (.slice _)=>(cOpd x).bind fun y=>some (.lenV y)
  | [x],some (.map _ _)=>(cOpd x).bind fun y=>some (.lenM y)
  |_,_=>none
 | .builtin .append=>match c.args.toList,c.argTypes.toList with
  | [x,y],[t,t']=>match P.underlying t,P.underlying t' with
   |some (.slice e),some .string=>(P.info? e).bind fun i=>(cOpd x).bind fun x=>(cOpd y).bind fun y =>
    if own.contains 4000000&&decide ((i.zero.map fun z=>z.cells.size)=some i.size)&&decide (i.size=1)&&decide (i.bytes=1) then some (.appendS e x y) else none
   |some (.slice e),some (.slice _)=>(P.info? e).bind fun i=>(cOpd x).bind fun x=>(cOpd y).bind fun y =>
    if own.contains 4000000 then (if decide ((i.zero.map fun z=>z.cells.size)=some i.size)&&decide (i.size=1)&&decide (i.bytes=1) then some (.appendB e x y) else none)
    else if decide ((i.zero.map fun z=>z.cells.size)=some i.size)&&decide (0<i.size)&&decide (0<i.bytes)&&decide (i.bytes≤2 ^ 20) then some (.append i.size i.bytes x y) else none
   |_,_=>none
  |_,_=>none
 | .builtin .clear=>match c.args.toList,c.argTypes.toList with
  | [x],[t]=>match P.underlying t with
   |some (.slice e)=>(P.info? e).bind fun i=>i.zero.bind fun z=>(absL z.cells.toList).bind fun l=>(cOpd x).bind fun x =>
    if l.length=i.size∧0<i.size then some (.clearA i.size (l.map AVal.shut) x) else none
   |_=>none
  |_,_=>none
 | .builtin .max=>match c.args.toList with|[x,y]=>(cOpd x).bind fun x=>(cOpd y).bind fun y=>some (.minmax true x y)|_=>none
 | .builtin .min=>match c.args.toList with|[x,y]=>(cOpd x).bind fun x=>(cOpd y).bind fun y=>some (.minmax false x y)|_=>none
 |_=>none
def cOp (P:Program) (own:List Nat) (o:Oper):Option AOp :=
 match o.op with
 | .move x=>(cOpd x).bind fun x=>some (.mv x)
 | .assign x=>(cOpd x).bind fun x =>
  match o.dst with
  |some d=>if own.contains d then match P.underlying o.type with
    |some (.slice e)=>(szOf P e).bind fun n=>match x with
     | .cst (.slice .c0 [])=>some (.own n x)
     |_=>some (.mv x)
    |_=>none
   else some (.mv x)
  |none=>some (.mv x)
 | .pick c a b=>(cOpd c).bind fun c=>(cOpd a).bind fun a=>(cOpd b).bind fun b=>some (.pick c a b)
 | .alloc t=>(P.info? t).bind fun i=>i.zero.bind fun z=>(absL z.cells.toList).bind fun l =>
  match o.dst with
  |some d=>if own.contains (3000000+d) then some (.boxO t Globs.u8 l) else some (.box0 l)
  |none=>some (.box0 l)
 | .box t x=>(cOpd x).bind fun x=>match o.dst with
  |some d=>if own.contains (3000000+d) then some (.boxW t Globs.u8 x) else some (.box x)
  |none=>some (.box x)
 | .build t parts=>match P.underlying t with
  |some (.struct fs)=>(P.info? t).bind fun i=>i.zero.bind fun z=>(absL z.cells.toList).bind fun l=>(cParts P fs parts.toList).bind fun ps =>
   if fs.all (fun f=>(P.info? f.type).isSome) then some (.build l ps) else none
  |_=>none
 | .buildSlice t len parts=>match P.underlying t with
  |some (.slice e)=>(P.info? e).bind fun i=>(cRow 0 parts.toList).bind fun l =>
   if l.length=len∧len*i.size≤2 ^ 24∧(i.zero.map fun z=>z.cells.size)=some i.size∧0<i.size then some (match o.dst with|some d=>if own.contains d then .litsO i.size l else .lits i.size l|none => .lits i.size l) else none
  |_=>none
 | .load t x=>(aggQ P t).bind fun g=>(szOf P t).bind fun n=>(cOpd x).bind fun x=>some (if g then .loadA n x else .load1 x)
 | .store t a x=>(szOf P t).bind fun n=>(cOpd a).bind fun a=>(cOpd x).bind fun x=>some (match a with
  | .tmp s=>match own.find? (fun m=>decide (1000000000≤m)&&decide (m % 1000=s)) with
   |some m => .storeO (m / 1000000 % 1000) (m / 1000 % 1000) n a x
   |none => .store n a x
  |_ => .store n a x)
 | .nilCheck x=>(cOpd x).bind fun x=>some (.chk x)
 | .binOp op t x y _=>(cOpd x).bind fun x=>(cOpd y).bind fun y=>match P.underlying t with
  |some (.int _)|some .string=>(cBin op).bind fun b=>some (.bin b x y)
  |some .bool=>match op with
   | .eql=>some (.eqB false x y)
   | .neq=>some (.eqB true x y)
   |_=>none
  |some (.struct fs)=>if P.stoodInHeld t then none else (fksOf P 0 fs.toList).bind fun ks=>match op with
   | .eql=>some (.eqA ks false x y)
   | .neq=>some (.eqA ks true x y)
   |_=>none
  |_=>none
 | .unOp .not _ x=>(cOpd x).bind fun x=>some (.not x)
 | .unOp .neg _ x=>(cOpd x).bind fun x=>some (.neg x)
 | .convert s d x=>(cOpd x).bind fun x=>match P.underlying s,P.underlying d with
  |some (.int _),some (.int k)=>some (.conv k x)
  |some .string,some .string=>some (.same x)
  |some (.slice e),some .string=>match P.underlying e with|some (.int .u8)=>some (.b2s x)|_=>none
  |some .string,some (.slice e)=>match P.underlying e with|some (.int .u8)=>some (.s2b x)|_=>none
  |_,_=>none
 | .makeFunc (.func f) first caps=>if first.isEmpty then (cOpds caps.toList).bind fun l=>some (.fn f l) else if caps.isEmpty then (cOpds first.toList).bind fun l=>some (.bindF f l) else none
 | .slice t x lo hi mx=>(cOpd x).bind fun x=>(cOpt lo).bind fun lo=>(cOpt hi).bind fun hi=>(cOpt mx).bind fun mx=>match P.underlying t with
  |some .string=>if mx.isNone then some (.sliceS x lo hi) else none
  |some (.slice e)=>(szOf P e).bind fun n=>if 0<n∧(mx.isNone∨hi.isSome) then some (.sliceV n x lo hi mx) else none
  |_=>none
 | .fieldAddr s x f=>match P.underlying s with
  |some (.struct fs)=>(fs[f]?).bind fun f=>(szOf P f.type).bind fun n=>(cOpd x).bind fun x=>if 0<n then some (.faddr f.offset x) else none
  |_=>none
 | .field s x f=>match P.underlying s with
  |some (.struct fs)=>(fs[f]?).bind fun f=>(aggQ P f.type).bind fun g=>(szOf P f.type).bind fun n=>(cOpd x).bind fun x=>some (if g then .fieldA f.offset n x else .field1 f.offset x)
  |_=>none
 | .indexAddr t x i=>match P.underlying t with
  |some (.slice e)=>(szOf P e).bind fun n=>(cOpd x).bind fun x=>(cOpd i).bind fun i=>if 0<n then some (.iaddr n x i) else none
  |some (.array len e)=>(szOf P e).bind fun n=>(cOpd x).bind fun x=>(cOpd i).bind fun i=>if 0<n then some (.iaddrA len n x i) else none
  |_=>none
 | .index t x i=>match P.underlying t with
  |some .string=>(cOpd x).bind fun x=>(cOpd i).bind fun i=>some (.indexS x i)
  |some (.array len e)=>if szOf P e=some 1∧aggQ P e=some false then (cOpd x).bind fun x=>(cOpd i).bind fun i=>some (.indexA len x i) else none
  |_=>none
 | .extract x i=>(cOpd x).bind fun x=>some (.extract x i)
 | .call c=>cCall P own o.type c
 | .makeMap _ none=>some .mkMap
 | .lookup t x i ok=>match P.underlying t with
  |some (.map k e)=>(keyFK P k).bind fun fk=>(P.info? e).bind fun ie=>ie.zero.bind fun zv=>(absT zv).bind fun z=>(cOpd x).bind fun x=>(cOpd i).bind fun i=>some (.look fk z ok x i)
  |_=>none
 | .mapUpdate t m k v=>match P.underlying t with
  |some (.map kt _)=>(keyFK P kt).bind fun fk=>(cOpd m).bind fun m=>(cOpd k).bind fun k=>(cOpd v).bind fun v=>some (.upd fk m k v)
  |_=>none
 | .range t x=>match P.underlying t with
  |some .string=>(cOpd x).bind fun x=>some (.rngS x)
  |_=>none
 | .next it true=>(cOpd it).bind fun it=>some (.nextS it)
 |_=>none
structure Ann where
 n:Nat
 own:List Nat:=[]
 lv:List (Nat×List Nat)
 lp:List (Nat×List Nat):=[]
def find (l:List (Nat×List Nat)) (k:Nat):List Nat:=match l with
 | []=>[]
 |(i,x)::r=>if i=k then x else find r k
def dstOk (n:Nat):Option Nat→Bool
 |some d=>decide (d<n)
 |none=>true
def cOper (P:Program) (A:Ann) (ops:Array Oper) (grow:Bool) (o:Oper):Option AOper :=
 (cOp P A.own o).bind fun op =>
  if dstOk A.n o.dst then
   match o.guard with
   |none=>some { dst:=o.dst,op,guard:=none,grow }
   |some (k,want)=>((ops[k]?).bind (·.dst)).bind fun t=>if t<A.n then some { dst:=o.dst,op,guard:=some (t,want),grow } else none
  else none
def cOpers (P:Program) (A:Ann) (ops:Array Oper) (grow:List Bool):List Oper→Option (List AOper)
 | []=>some []
 |o::r=>(cOper P A ops (grow.headD false) o).bind fun x=>(cOpers P A ops grow.tail r).bind fun l=>some (x::l)
def firstRegion:Code→Nat
 | .region id _ _=>id
 | .seq a _=>firstRegion a
 | .block _ c=>firstRegion c
 | .loop c=>firstRegion c
 | .cond _ a _=>firstRegion a
 |_=>0
def Opd.slots:Opd→List Nat
 | .tmp t=>[t]
 | .cst _=>[]
def oslots:Option Opd→List Nat
 |some x=>x.slots
 |none=>[]
def AOp.slots:AOp→List Nat
 | .mv x | .own _ x | .box x | .loadA _ x | .load1 x | .chk x | .not x | .neg x | .conv _ x | .same x | .faddr _ x | .fieldA _ _ x | .field1 _ x | .extract x _ | .lenS x | .lenV x | .b2s x | .lenM x | .rngS x | .nextS x | .clearA _ _ x | .s2b x | .boxW _ _ x=>x.slots
 | .pick c a b=>c.slots++(a.slots++b.slots)
 | .box0 _ | .mkMap | .boxO .. => []
 | .build _ ps=>ps.flatMap fun p=>p.2.2.slots
 | .lits _ ps | .litsO _ ps=>ps.flatMap Opd.slots
 | .store _ a x | .storeO _ _ _ a x=>a.slots++x.slots
 | .upd _ m k v=>m.slots++(k.slots++v.slots)
 | .bin _ x y | .look _ _ _ x y | .eqA _ _ x y | .eqB _ x y | .iaddr _ x y | .iaddrA _ _ x y | .indexA _ x y | .indexS x y | .append _ _ x y | .appendS _ x y | .appendB _ x y | .minmax _ x y=>x.slots++y.slots
 | .fn _ l | .bindF _ l=>l.flatMap Opd.slots
 | .sliceS x l h=>x.slots++(oslots l++oslots h)
 | .sliceV _ x l h m=>x.slots++(oslots l++(oslots h++oslots m))
 | .call _ l | .callD _ l | .callF _ l=>l.flatMap Opd.slots
 | .callV f l=>f.slots++l.flatMap Opd.slots
def AOp.isE:AOp→Bool
 | .own .. | .litsO .. | .box0 _ | .boxO .. | .boxW .. | .appendS .. | .appendB .. | .box _ | .store .. | .storeO .. | .call .. | .callV .. | .callD .. | .callF .. | .clearA .. | .append .. | .mkMap | .upd .. | .lenM _ | .rngS _ | .nextS _=>true
 |_=>false
def AOp.isL:AOp→Bool
 | .loadA .. | .load1 _ | .look .. => true
 |_=>false
def AOper.reads (o:AOper):List Nat:=o.op.slots++(match o.guard with|some (t,_)=>[t]|none=>[])
def maskOf (acc:List Nat):List Edge→Nat
 | []=>0
 |e::r=>if Region.binds .any e then maskOf acc r ||| (2 ^ e.on ||| (nth acc e.on).getD 0) else maskOf acc r
def befGo:List Oper→List Nat→List Nat
 | [],acc=>acc
 |o::r,acc=>befGo r (acc++[maskOf acc o.after.toList])
def befs (ops:List Oper):List Nat:=befGo ops []
def ahead (bs:List Nat) (i k:Nat):Bool:=((nth bs k).getD 0).testBit i
def meet (x y:AOper):Bool :=
 (match x.dst with|some d=>y.reads.contains d||y.dst==some d|none=>false)||(match y.dst with|some d=>x.reads.contains d|none=>false)
def fenced (bs:List Nat) (l:List AOper) (k:Nat):Bool:=(List.range l.length).all fun i=>match nth l i with
 |some x => !x.op.isL||(if i<k then ahead bs i k else i==k||ahead bs k i)
 |none=>true
def AOp.isCall:AOp→Bool
 | .call .. | .callV .. => true
 |_=>false
def ordered (bs:List Nat) (i k:Nat):Bool:=i==k||(if i<k then ahead bs i k else ahead bs k i)
def alone (bs:List Nat) (l:List AOper) (k:Nat):Bool:=(List.range l.length).any fun i=>match nth l i with
 |some x=>x.op.isE && !x.op.isCall && !ordered bs i k
 |none=>false
def AOp.slotL:AOp→Option Nat
 | .load1 (.tmp z)=>some z
 | .loadA _ (.tmp z)=>some z
 | .look _ _ _ (.tmp z) _=>some z
 |_=>none
def AOp.isSt:AOp→Bool
 | .store .. => true
 | .append .. => true
 | .appendS .. | .appendB .. => true
 |_=>false
def noWr (l:List AOper) (i k z:Nat):Bool:=(List.range k).all fun p=>decide (p<i)||match nth l p with|some x=>x.dst != some z|none=>true
def sepList (bs:List Nat) (l:List AOper) (k:Nat):List Nat:=(List.range k).filterMap fun i=>match nth l i with
 |some x=>if x.op.isL && !ahead bs i k then x.op.slotL else none
 |none=>none
def sepGood (bs:List Nat) (l:List AOper) (k:Nat) (sep:List Nat):Bool:=(List.range l.length).all fun i=>match nth l i with
 |some x => !x.op.isL||i==k||(if i<k then (ahead bs i k||match x.op.slotL with|some z=>sep.contains z&&noWr l i k z|none=>false) else ahead bs k i)
 |none=>true
def withFlags (bs:List Nat) (l:List AOper):Nat→List AOper→List AOper
 |_,[]=>[]
 |k,x::r=>{ x with grow:=x.op.isE && !(x.op.isCall&&alone bs l k) && !fenced bs l k,nomem:=x.op.isCall&&alone bs l k,sep:=if x.op.isSt && !fenced bs l k&&sepGood bs l k (sepList bs l k) then sepList bs l k else [] }::withFlags bs l (k+1) r
def AOper.isE' (x:AOper):Bool:=x.op.isE && !x.nomem
def okLoad:AOp→Bool
 | .load1 (.cst _) | .loadA _ (.cst _) | .look _ _ _ (.cst _) _=>false
 |_=>true
def orderOk (ops:Array Oper) (bs:List Nat) (l:List AOper):Bool:=(List.range l.length).all fun k=>match nth l k,ops[k]? with
 |some y,some o=>o.after.toList.all (fun e => !Region.binds .any e||decide (e.on<k))&&((!y.nomem||y.op.isCall)&&okLoad y.op)&&((!(y.isE' && !y.grow)||fenced bs l k)&&(y.sep.isEmpty||sepGood bs l k y.sep)) &&
  (List.range k).all fun i=>match nth l i with
   |some x=>(!meet x y||ahead bs i k)&&(!(x.isE'&&y.isE')||ahead bs i k)
   |none=>false
 |_,_=>false
def openOrder (ops:Array Oper) (l:List AOper):Option (List AOper) :=
 if orderOk ops (befs ops.toList) (withFlags (befs ops.toList) l 0 l) then some (withFlags (befs ops.toList) l 0 l) else none
def comp (P:Program) (A:Ann):Code→Option ACode
 | .skip=>some .skip
 | .region id ops draw=>if draw then
   (cOpers P { A with own:=A.own.filter (1000000 ≤ ·) } ops [] ops.toList).bind fun l0=>(openOrder ops l0).bind fun l=>some (.region l true (find A.lv id))
  else (cOpers P A ops [] ops.toList).bind fun l=>some (.region l false (find A.lv id))
 | .seq a b=>(comp P A a).bind fun x=>(comp P A b).bind fun y=>some (.seq x y)
 | .cond c a b=>(cOpd c).bind fun c=>(comp P A a).bind fun x=>(comp P A b).bind fun y=>some (.cond c x y)
 | .block id c=>(comp P A c).bind fun x=>some (.block id x)
 | .loop c=>(comp P A c).bind fun x=>some (.loop (find A.lp (firstRegion c)) x)
 | .exit id=>some (.exit id)
 | .ret=>some .ret
 |_=>none
def cRes (P:Program):List ResultVar→Option (List ARes)
 | []=>some []
 | .tmp t::r=>(cRes P r).bind fun l=>some (.tmp t::l)
 | .cell a t::r=>(aggQ P t).bind fun g=>(szOf P t).bind fun n=>(cRes P r).bind fun l=>some ((if g then .cellA a n else .cell1 a)::l)
def compFn (P:Program) (A:Ann) (fn:Func):Option AFn :=
 match fn.body with
 |none=>none
 |some c=>if fn.name != "runtime.NumGoroutine" ∧ A.n=fn.ntmps∧fn.params.size+fn.nfree≤fn.ntmps then
   (comp P A c).bind fun b=>(cRes P fn.results.toList).bind fun r=>some { nparams:=fn.params.size+fn.nfree,results:=r,body:=b }
  else none
end Go.Abs
namespace Go.Proofs.YtannopdcbocngaaGreatDoor
open Go Go.Abs
def wordsL:List (List UInt8):=[[],[108,111,111,107],[109,97,107,101],[108,105,110,107],[117,110,108,105,110,107],[114,101,110,97,109,101],[108,105,115,116],[115,116,97,116],[111,112,101,110],[99,108,111,115,101],[114,101,97,100],[119,114,105,116,101],[99,117,116],[108,105,109,105,116],[116,97,107,101],[112,101,101,107],[100,114,111,112],[99,114,97,115,104]]
def gv0:List AVal:=wordsL.map .str
def pow10L:List Nat:=[1,10,100,1000,10000,100000,1000000,10000000,100000000,1000000000,10000000000,100000000000,1000000000000,10000000000000,100000000000000,1000000000000000,10000000000000000,100000000000000000,1000000000000000000,10000000000000000000]
instance:Globs where
 g:=fun b=>match b with
  |0=>some (wordsL.map fun l => .string ⟨l.toArray⟩)
  |3=>some (pow10L.map fun (n:Nat) => .int .u64 (n:Int))
  |_=>none
 q:=fun b=>match b with
  |1=>some (fun v=>∃t p,v = .iface t p)
  |2=>some (fun v=>∃t p,v = .iface t p)
  |4=>some (fun v=>∃m,v = .int .i64 m)
  |_=>none
 u8:=5
end Go.Proofs.YtannopdcbocngaaGreatDoor
namespace Go.Abs
open Go Go.RowKit
theorem nth_eq {α:Type}:∀(l:List α) (i:Nat),nth l i=l[i]?
 | [],_=>by simp [nth]
 |_::_,0=>by simp [nth]
 |_::l,n+1=>by simp [nth,nth_eq l n]
theorem setN_eq {α:Type}:∀(l:List α) (i:Nat) (x:α),setN l i x=l.set i x
 | [],_,_=>by simp [setN]
 |_::_,0,_=>by simp [setN]
 |_::l,n+1,x=>by simp [setN,setN_eq l n]
def upd (j:J) (id:Nat) (ob:Option Nat):J:=⟨fun i=>if i=id then ob else j i,j.X⟩
structure Quiet (w w':World):Prop where
 size:w.heap.size≤w'.heap.size
 os:w'.os=w.os
 tape:w'.tape=w.tape
 output:w'.output=w.output
theorem lt_of_block {w:World} {b:Nat} {o:Obj} (h:w.heap[b]?=some o):b<w.heap.size:=by
 rcases Nat.lt_or_ge b w.heap.size with h'|h'
 ·exact h'
 ·rw [Array.getElem?_eq_none h'] at h; cases h
theorem lt_of_some {α:Type} {l:List α} {i:Nat} {x:α} (h:l[i]?=some x):i<l.length:=(List.getElem?_eq_some_iff.1 h).1
section
variable {j:J} {M:AMem} {w w':World}
theorem arr_keep {j':J} {M':AMem} (hr:Rel j M w) (ext:Ext j M w j' M' w') {i sz ver:Nat} {xs:List AVal} (h:M[i]?=some (.arr sz ver xs)) (hj:j' i=j i) (hb:∀b,j i=some b→w'.heap[b]?=w.heap[b]?) :
  ∃b vs t,j' i=some b∧w'.heap[b]?=some (.cells vs t (0,0))∧xs.length*sz≤vs.size∧(∀x,x∈xs→x.cells.length=sz) ∧
  ∀(q:Nat) (x:AVal) (k:Nat) (c:AVal),xs[q]?=some x→x.cells[k]?=some c→∃v,vs[q*sz+k]?=some v∧RepP w' (Saf j' M' w') c v:=by
 obtain ⟨b,vs,t,h1,h2,h3,h4,h5⟩:=hr.arr i sz ver xs h
 refine ⟨b,vs,t,hj.trans h1,(hb b h1).trans h2,h3,h4,fun q x k c hx hk=>?_⟩
 obtain ⟨u,h6,h7⟩:=h5 q x k c hx hk
 exact ⟨u,h6,h7.mono ext.saf⟩
theorem app_old {bx:ABox} {i:Nat} (h:i<M.length):(M++[bx])[i]?=M[i]?:=List.getElem?_append_left h
theorem app_new {bx:ABox}:(M++[bx])[M.length]?=some bx:=by simp
theorem Ext.push {ob:Option Nat} {bx:ABox} (hob:∀b,ob=some b→w.heap.size≤b) (q:Quiet w w') (hb:∀b,b<w.heap.size→w'.heap[b]?=w.heap[b]?) :
  Ext j M w (upd j M.length ob) (M++[bx]) w' where
 len:=by simp
 size:=q.size
 os:=q.os
 tape:=q.tape
 output:=q.output
 X:=rfl
 fix:=fun i bx h _=>by
  have hi:=lt_of_some h
  exact ⟨by simp [upd,Nat.ne_of_lt hi],bx,by rw [app_old hi]; exact h,rfl⟩
 tick:=fun i sz n h=>by
  have hi:=lt_of_some h
  exact ⟨n,Nat.le_refl _,by rw [app_old hi]; exact h,fun _=>⟨by simp [upd,Nat.ne_of_lt hi],fun b vs t _ hv=>⟨vs,(hb b (lt_of_block hv)).trans hv,rfl⟩⟩⟩
 arr:=fun i sz v xs h=>by
  have hi:=lt_of_some h
  exact .inr ⟨v,xs,by rw [app_old hi]; exact h,Nat.le_refl _,fun _=>⟨by simp [upd,Nat.ne_of_lt hi],rfl,fun b vs t _ hv=>⟨vs,(hb b (lt_of_block hv)).trans hv,rfl⟩⟩⟩
 tags:=fun b0 vs0 t0 fr0 h=>⟨vs0,fr0,(hb b0 (lt_of_block h)).trans h,rfl⟩
 saf:=fun b off h=>by
  refine ⟨⟨Nat.lt_of_lt_of_le h.1 q.size,fun id hid hj=>?_,h.3⟩,World.cell?_of_block (w:=w) (hb b h.1)⟩
  by_cases he:id=M.length
  ·have:ob=some b:=by simpa [upd,he] using hj
   have:=hob b this
   have:=h.1
   omega
  ·have hlt:id<M.length:=by simp at hid; omega
   rw [app_old hlt]
   exact h.2 id hlt (by simpa [upd,he] using hj)
 old:=fun b hlt h=>by
  refine ⟨hb b hlt,fun i hi hj=>?_⟩
  by_cases he:i=M.length
  ·have:ob=some b:=by simpa [upd,he] using hj
   have:=hob b this
   omega
  ·exact h i (by simp at hi; omega) (by simpa [upd,he] using hj)
theorem Rel.pushF (hr:Rel j M w) {ob:Option Nat} {bx:ABox} (hob:∀b,ob=some b→w.heap.size≤b∧b<w'.heap.size) (q:Quiet w w') (hb:∀b,b<w.heap.size→w'.heap[b]?=w.heap[b]?)
  (hbox:bx.fixed=true→∃b,ob=some b∧(Ext j M w (upd j M.length ob) (M++[bx]) w'→Holds (upd j M.length ob) (M++[bx]) w' b bx))
  (htick:∀sz n b,bx = .tick sz n→ob=some b→∃vs t,w'.heap[b]?=some (.cells vs t (0,0)))
  (harr:∀sz ver xs,bx = .arr sz ver xs→∃b vs t,ob=some b∧w'.heap[b]?=some (.cells vs t (0,0))∧xs.length*sz≤vs.size∧(∀x,x∈xs→x.cells.length=sz) ∧
   ∀j' M',Ext j M w j' M' w'→∀(q:Nat) (x:AVal) (k:Nat) (c:AVal),xs[q]?=some x→x.cells[k]?=some c→∃v,vs[q*sz+k]?=some v∧RepP w' (Saf j' M' w') c v:=by intro _ _ _ h; cases h):Rel (upd j M.length ob) (M++[bx]) w':=by
 have ext:Ext j M w (upd j M.length ob) (M++[bx]) w':=Ext.push (fun b h=>(hob b h).1) q hb
 have up:∀i,i<M.length→upd j M.length ob i=j i:=fun i hi=>by simp [upd,Nat.ne_of_lt hi]
 have cas:∀i x,(M++[bx])[i]?=some x→(i<M.length∧M[i]?=some x)∨(i=M.length∧x=bx):=by
  intro i x h
  rcases Nat.lt_or_ge i M.length with hi|hi
  ·exact .inl ⟨hi,by rw [←app_old (bx:=bx) hi]; exact h⟩
  ·have:=lt_of_some h
   have he:i=M.length:=by simp at this; omega
   subst he
   rw [app_new] at h
   injection h with h
   exact .inr ⟨rfl,h.symm⟩
 refine ⟨fun i i' b hi hi' h h'=>?_,fun i b hi h=>?_,fun i bx' h hf=>?_,fun i sz n b h hj=>?_,fun i sz ver xs h=>?_,fun i b hi h off hx=>?_,fun b off h=>Nat.lt_of_lt_of_le (hr.xlt b off h) q.size⟩
 ·simp only [List.length_append,List.length_cons,List.length_nil] at hi hi'
  by_cases e:i=M.length<;>by_cases e':i'=M.length
  ·omega
  ·have h1:ob=some b:=by simpa [upd,e] using h
   rw [up i' (by omega)] at h'
   have:=hr.lt i' b (by omega) h'
   have:=(hob b h1).1
   omega
  ·have h1:ob=some b:=by simpa [upd,e'] using h'
   rw [up i (by omega)] at h
   have:=hr.lt i b (by omega) h
   have:=(hob b h1).1
   omega
  ·rw [up i (by omega)] at h
   rw [up i' (by omega)] at h'
   exact hr.inj i i' b (by omega) (by omega) h h'
 ·simp only [List.length_append,List.length_cons,List.length_nil] at hi
  by_cases e:i=M.length
  ·exact (hob b (by simpa [upd,e] using h)).2
  ·rw [up i (by omega)] at h
   exact Nat.lt_of_lt_of_le (hr.lt i b (by omega) h) q.size
 ·rcases cas i _ h with ⟨hi,h⟩|⟨rfl,hx⟩
  ·obtain ⟨b,h1,h2⟩:=hr.fix i bx' h hf
   exact ⟨b,by rw [up i hi]; exact h1,h2.mono ext (hb b (hr.lt i b hi h1))⟩
  ·subst hx
   obtain ⟨b,h1,h2⟩:=hbox hf
   exact ⟨b,by simp [upd,h1],h2 ext⟩
 ·rcases cas i _ h with ⟨hi,h⟩|⟨rfl,hx⟩
  ·rw [up i hi] at hj
   obtain ⟨vs,t,h1⟩:=hr.tick i sz n b h hj
   exact ⟨vs,t,(hb b (lt_of_block h1)).trans h1⟩
  ·exact htick sz n b hx.symm (by simpa [upd] using hj)
 ·rcases cas i _ h with ⟨hi,h⟩|⟨rfl,hx⟩
  ·exact arr_keep hr ext h (up i hi) fun b h1=>hb b (hr.lt i b hi h1)
  ·obtain ⟨b,vs,t,h1,h2,h3,h4,h5⟩:=harr sz ver xs hx.symm
   exact ⟨b,vs,t,by simp [upd,h1],h2,h3,h4,h5 _ _ ext⟩
 ·by_cases e:i=M.length
  ·have h1:=(hob b (by simpa [upd,e] using h)).1
   have h2:=hr.xlt b off hx
   omega
  ·exact hr.xdis i b (by simp at hi; omega) (by rw [up i (by simp at hi; omega)] at h; exact h) off hx
theorem Rel.push (hr:Rel j M w) {ob:Option Nat} {bx:ABox} (hob:∀b,ob=some b→w.heap.size≤b∧b<w'.heap.size) (q:Quiet w w') (hb:∀b,b<w.heap.size→w'.heap[b]?=w.heap[b]?)
  (hbox:bx.fixed=true→∃b,ob=some b∧∀j' M',Ext j M w j' M' w'→Holds j' M' w' b bx)
  (htick:∀sz n b,bx = .tick sz n→ob=some b→∃vs t,w'.heap[b]?=some (.cells vs t (0,0)))
  (harr:∀sz ver xs,bx = .arr sz ver xs→∃b vs t,ob=some b∧w'.heap[b]?=some (.cells vs t (0,0))∧xs.length*sz≤vs.size∧(∀x,x∈xs→x.cells.length=sz) ∧
   ∀j' M',Ext j M w j' M' w'→∀(q:Nat) (x:AVal) (k:Nat) (c:AVal),xs[q]?=some x→x.cells[k]?=some c→∃v,vs[q*sz+k]?=some v∧RepP w' (Saf j' M' w') c v:=by intro _ _ _ h; cases h):Rel (upd j M.length ob) (M++[bx]) w' :=
 hr.pushF hob q hb (fun hf=>(hbox hf).imp fun b h=>⟨h.1,fun hx=>h.2 _ _ hx⟩) htick harr
theorem set_same {id:Nat} {bx:ABox} (h:id<M.length):(M.set id bx)[id]?=some bx:=by simp [h]
theorem set_other {id i:Nat} {bx:ABox} (h:id≠i):(M.set id bx)[i]?=M[i]?:=by simp [List.getElem?_set_ne h]
theorem Ext.store {id b:Nat} {bx bx':ABox} (hM:M[id]?=some bx) (hfx:bx.fixed=true) (htag:bx'.tag=bx.tag) (hj:j id=some b) (hr:Rel j M w) (q:Quiet w w')
  (hb:∀b',b'≠b→b'<w.heap.size→w'.heap[b']?=w.heap[b']?) (htg:∀(vs:Array Value) (t:TypeId) (fr:Nat×Nat),w.heap[b]?=some (.cells vs t fr)→∃vs' fr',w'.heap[b]?=some (.cells vs' t fr')∧vs'.size=vs.size):Ext j M w j (M.set id bx') w' where
 len:=by simp
 size:=q.size
 os:=q.os
 tape:=q.tape
 output:=q.output
 X:=rfl
 fix:=fun i b0 h _=>⟨rfl,by
  by_cases e:id=i
  ·subst e
   rw [hM] at h; injection h with h; subst h
   exact ⟨_,set_same (lt_of_some hM),htag⟩
  ·exact ⟨b0,by rw [set_other e]; exact h,rfl⟩⟩
 tick:=fun i sz n h=>by
  have e:id≠i:=by rintro rfl; rw [hM] at h; injection h with h; subst h; cases hfx
  refine ⟨n,Nat.le_refl _,by rw [set_other e]; exact h,fun _=>⟨rfl,fun b' vs t hb' hv=>⟨vs,?_,rfl⟩⟩⟩
  refine (hb b' ?_ (lt_of_block hv)).trans hv
  rintro rfl
  exact e (hr.inj _ _ _ (lt_of_some hM) (lt_of_some h) hj hb')
 arr:=fun i sz v xs h=>by
  have e:id≠i:=by rintro rfl; rw [hM] at h; injection h with h; subst h; cases hfx
  refine .inr ⟨v,xs,by rw [set_other e]; exact h,Nat.le_refl _,fun _=>⟨rfl,rfl,fun b' vs t hb' hv=>⟨vs,?_,rfl⟩⟩⟩
  refine (hb b' ?_ (lt_of_block hv)).trans hv
  rintro rfl
  exact e (hr.inj _ _ _ (lt_of_some hM) (lt_of_some h) hj hb')
 tags:=fun b0 vs0 t0 fr0 h=>by
  by_cases e:b0=b
  ·subst e; exact htg vs0 t0 fr0 h
  ·exact ⟨vs0,fr0,(hb b0 e (lt_of_block h)).trans h,rfl⟩
 saf:=fun b0 off h=>by
  have hne:b0≠b:=by
   rintro rfl
   obtain ⟨sz,n,h1,_⟩:=h.2 id (lt_of_some hM) hj
   rw [hM] at h1; injection h1 with h1; subst h1; cases hfx
  refine ⟨⟨Nat.lt_of_lt_of_le h.1 q.size,fun i hi hji=>?_,h.3⟩,World.cell?_of_block (w:=w) (hb b0 hne h.1)⟩
  have e:id≠i:=by rintro rfl; rw [hj] at hji; injection hji with hji; exact hne hji.symm
  rw [set_other e]
  exact h.2 i (by simpa using hi) hji
 old:=fun b0 hlt h=>by
  have hne:b0≠b:=by rintro rfl; exact h id (lt_of_some hM) hj
  exact ⟨hb b0 hne hlt,fun i hi=>h i (by simpa using hi)⟩
theorem Rel.store {id b:Nat} {bx bx':ABox} (hM:M[id]?=some bx) (hfx:bx.fixed=true) (htag:bx'.tag=bx.tag) (hj:j id=some b) (hr:Rel j M w) (q:Quiet w w')
  (hb:∀b',b'≠b→b'<w.heap.size→w'.heap[b']?=w.heap[b']?) (htg:∀(vs:Array Value) (t:TypeId) (fr:Nat×Nat),w.heap[b]?=some (.cells vs t fr)→∃vs' fr',w'.heap[b]?=some (.cells vs' t fr')∧vs'.size=vs.size) (hh:∀j' M',Ext j M w j' M' w'→Holds j' M' w' b bx'):Rel j (M.set id bx') w':=by
 have ext:Ext j M w j (M.set id bx') w':=Ext.store hM hfx htag hj hr q hb htg
 refine ⟨fun i i' b0 hi hi'=>hr.inj i i' b0 (by simpa using hi) (by simpa using hi'),fun i b0 hi h=>Nat.lt_of_lt_of_le (hr.lt i b0 (by simpa using hi) h) q.size,fun i bx0 h hf=>?_,fun i sz n b0 h hji=>?_,fun i sz ver xs h=>?_,fun i b0 hi h=>hr.xdis i b0 (by simpa using hi) h,fun b0 off h=>Nat.lt_of_lt_of_le (hr.xlt b0 off h) q.size⟩
 ·by_cases e:id=i
  ·subst e
   rw [set_same (lt_of_some hM)] at h
   injection h with h
   subst h
   exact ⟨b,hj,hh _ _ ext⟩
  ·rw [set_other e] at h
   obtain ⟨b0,h1,h2⟩:=hr.fix i bx0 h hf
   refine ⟨b0,h1,h2.mono ext (hb b0 ?_ (hr.lt i b0 (lt_of_some h) h1))⟩
   rintro rfl
   exact e (hr.inj _ _ _ (lt_of_some hM) (lt_of_some h) hj h1)
 ·have e:id≠i:=by
   rintro rfl
   rw [set_same (lt_of_some hM)] at h
   injection h with h
   have:=tag_fixed htag hfx
   rw [h] at this; cases this
  rw [set_other e] at h
  obtain ⟨vs,t0,h1⟩:=hr.tick i sz n b0 h hji
  refine ⟨vs,t0,(hb b0 ?_ (lt_of_block h1)).trans h1⟩
  rintro rfl
  exact e (hr.inj _ _ _ (lt_of_some hM) (lt_of_some h) hj hji)
 ·have e:id≠i:=by
   rintro rfl
   rw [set_same (lt_of_some hM)] at h
   injection h with h
   have:=tag_fixed htag hfx
   rw [h] at this; cases this
  rw [set_other e] at h
  refine arr_keep hr ext h rfl fun b0 h1=>hb b0 ?_ (hr.lt i b0 (lt_of_some h) h1)
  rintro rfl
  exact e (hr.inj _ _ _ (lt_of_some hM) (lt_of_some h) hj h1)
theorem Ext.tickIn {k b sz n n':Nat} {vs vs':Array Value} {t:TypeId} (hM:M[k]?=some (.tick sz n)) (hj:j k=some b) (hr:Rel j M w) (q:Quiet w w')
  (hb:∀b',b'≠b→b'<w.heap.size→w'.heap[b']?=w.heap[b']?) (hw:w.heap[b]?=some (.cells vs t (0,0))) (hw':w'.heap[b]?=some (.cells vs' t (0,0))) (hvs:vs'.size=vs.size)
  (hq:∀p,p<n*sz→vs'[p]?=vs[p]?) (hn:n≤n'):Ext j M w j (M.set k (.tick sz n')) w' where
 len:=by simp
 size:=q.size
 os:=q.os
 tape:=q.tape
 output:=q.output
 X:=rfl
 fix:=fun i b0 h hf=>⟨rfl,by
  have e:k≠i:=by rintro rfl; rw [hM] at h; injection h with h; subst h; cases hf
  exact ⟨b0,by rw [set_other e]; exact h,rfl⟩⟩
 tick:=fun i sz0 n0 h=>by
  by_cases e:k=i
  ·subst e
   rw [hM] at h
   injection h with h; injection h with h1 h2
   subst h1; subst h2
   refine ⟨n',hn,set_same (lt_of_some hM),fun _=>⟨rfl,fun b' vs0 t0 hb' hv=>?_⟩⟩
   rw [hj] at hb'; injection hb' with hb'; subst hb'
   rw [hw] at hv; injection hv with hv; injection hv with e1 e2
   subst e1; subst e2
   exact ⟨vs',hw',hvs⟩
  ·refine ⟨n0,Nat.le_refl _,by rw [set_other e]; exact h,fun _=>⟨rfl,fun b' vs0 t0 hb' hv=>⟨vs0,?_,rfl⟩⟩⟩
   refine (hb b' ?_ (lt_of_block hv)).trans hv
   rintro rfl
   exact e (hr.inj _ _ _ (lt_of_some hM) (lt_of_some h) hj hb')
 arr:=fun i sz v xs h=>by
  have e:k≠i:=by rintro rfl; rw [hM] at h; cases h
  refine .inr ⟨v,xs,by rw [set_other e]; exact h,Nat.le_refl _,fun _=>⟨rfl,rfl,fun b' vs t hb' hv=>⟨vs,?_,rfl⟩⟩⟩
  refine (hb b' ?_ (lt_of_block hv)).trans hv
  rintro rfl
  exact e (hr.inj _ _ _ (lt_of_some hM) (lt_of_some h) hj hb')
 tags:=fun b0 vs0 t0 fr0 h=>by
  by_cases e:b0=b
  ·subst e
   rw [hw] at h; injection h with h; injection h with h1 h2 h3
   subst h1; subst h2
   exact ⟨_,_,hw',hvs⟩
  ·exact ⟨vs0,fr0,(hb b0 e (lt_of_block h)).trans h,rfl⟩
 saf:=fun b0 off h=>by
  refine ⟨⟨Nat.lt_of_lt_of_le h.1 q.size,fun i hi hji=>?_,h.3⟩,?_⟩
  ·by_cases e:k=i
   ·subst e
    obtain ⟨sz0,n0,h1,h2⟩:=h.2 k (lt_of_some hM) hji
    rw [hM] at h1
    injection h1 with h1; injection h1 with e1 e2
    subst e1; subst e2
    exact ⟨sz,n',set_same (lt_of_some hM),Nat.lt_of_lt_of_le h2 (Nat.mul_le_mul_right _ hn)⟩
   ·rw [set_other e]
    exact h.2 i (by simpa using hi) hji
  ·by_cases e:b0=b
   ·subst e
    obtain ⟨sz0,n0,h1,h2⟩:=h.2 k (lt_of_some hM) hj
    rw [hM] at h1
    injection h1 with h1; injection h1 with e1 e2
    subst e1; subst e2
    simp only [World.cell?,hw,hw']
    simpa using hq off h2
   ·exact World.cell?_of_block (w:=w) (hb b0 e h.1)
 old:=fun b0 hlt h=>by
  have hne:b0≠b:=by rintro rfl; exact h k (lt_of_some hM) hj
  exact ⟨hb b0 hne hlt,fun i hi=>h i (by simpa using hi)⟩
theorem Rel.tickIn {k b sz n n':Nat} {vs vs':Array Value} {t:TypeId} (hM:M[k]?=some (.tick sz n)) (hj:j k=some b) (hr:Rel j M w) (q:Quiet w w')
  (hb:∀b',b'≠b→b'<w.heap.size→w'.heap[b']?=w.heap[b']?) (hw:w.heap[b]?=some (.cells vs t (0,0))) (hw':w'.heap[b]?=some (.cells vs' t (0,0))) (hvs:vs'.size=vs.size)
  (hq:∀p,p<n*sz→vs'[p]?=vs[p]?) (hn:n≤n'):Rel j (M.set k (.tick sz n')) w':=by
 have ext:Ext j M w j (M.set k (.tick sz n')) w':=Ext.tickIn hM hj hr q hb hw hw' hvs hq hn
 refine ⟨fun i i' b0 hi hi'=>hr.inj i i' b0 (by simpa using hi) (by simpa using hi'),fun i b0 hi h=>Nat.lt_of_lt_of_le (hr.lt i b0 (by simpa using hi) h) q.size,fun i bx0 h hf=>?_,fun i sz0 n0 b0 h hji=>?_,fun i sz ver xs h=>?_,fun i b0 hi h=>hr.xdis i b0 (by simpa using hi) h,fun b0 off h=>Nat.lt_of_lt_of_le (hr.xlt b0 off h) q.size⟩
 ·have e:k≠i:=by rintro rfl; rw [set_same (lt_of_some hM)] at h; injection h with h; subst h; cases hf
  rw [set_other e] at h
  obtain ⟨b0,h1,h2⟩:=hr.fix i bx0 h hf
  refine ⟨b0,h1,h2.mono ext (hb b0 ?_ (hr.lt i b0 (lt_of_some h) h1))⟩
  rintro rfl
  exact e (hr.inj _ _ _ (lt_of_some hM) (lt_of_some h) hj h1)
 ·by_cases e:k=i
  ·subst e
   rw [hj] at hji; injection hji with hji; subst hji
   exact ⟨vs',t,hw'⟩
  ·rw [set_other e] at h
   obtain ⟨vs0,t0,h1⟩:=hr.tick i sz0 n0 b0 h hji
   refine ⟨vs0,t0,(hb b0 ?_ (lt_of_block h1)).trans h1⟩
   rintro rfl
   exact e (hr.inj _ _ _ (lt_of_some hM) (lt_of_some h) hj hji)
 ·have e:k≠i:=by rintro rfl; rw [set_same (lt_of_some hM)] at h; cases h
  rw [set_other e] at h
  refine arr_keep hr ext h rfl fun b0 h1=>hb b0 ?_ (hr.lt i b0 (lt_of_some h) h1)
  rintro rfl
  exact e (hr.inj _ _ _ (lt_of_some hM) (lt_of_some h) hj h1)
theorem Ext.tickNew {k b' sz n n':Nat} (hM:M[k]?=some (.tick sz n)) (q:Quiet w w') (hb:∀b,b<w.heap.size→w'.heap[b]?=w.heap[b]?) (hf:w.heap.size≤b') (hn:n<n') :
  Ext j M w (upd j k (some b')) (M.set k (.tick sz n')) w' where
 len:=by simp
 size:=q.size
 os:=q.os
 tape:=q.tape
 output:=q.output
 X:=rfl
 fix:=fun i b0 h hf=>by
  have e:k≠i:=by rintro rfl; rw [hM] at h; injection h with h; subst h; cases hf
  exact ⟨by simp [upd,Ne.symm e],b0,by rw [set_other e]; exact h,rfl⟩
 tick:=fun i sz0 n0 h=>by
  by_cases e:k=i
  ·subst e
   rw [hM] at h
   injection h with h; injection h with h1 h2
   subst h1; subst h2
   exact ⟨n',by omega,set_same (lt_of_some hM),fun he=>by omega⟩
  ·exact ⟨n0,Nat.le_refl _,by rw [set_other e]; exact h,fun _=>⟨by simp [upd,Ne.symm e],fun b vs0 t0 _ hv=>⟨vs0,(hb b (lt_of_block hv)).trans hv,rfl⟩⟩⟩
 arr:=fun i sz v xs h=>by
  have e:k≠i:=by rintro rfl; rw [hM] at h; cases h
  exact .inr ⟨v,xs,by rw [set_other e]; exact h,Nat.le_refl _,fun _=>⟨by simp [upd,Ne.symm e],rfl,fun b vs0 t0 _ hv=>⟨vs0,(hb b (lt_of_block hv)).trans hv,rfl⟩⟩⟩
 tags:=fun b0 vs0 t0 fr0 h=>⟨vs0,fr0,(hb b0 (lt_of_block h)).trans h,rfl⟩
 saf:=fun b0 off h=>by
  refine ⟨⟨Nat.lt_of_lt_of_le h.1 q.size,fun i hi hji=>?_,h.3⟩,World.cell?_of_block (w:=w) (hb b0 h.1)⟩
  have e:k≠i:=by
   rintro rfl
   have:b'=b0:=by simpa [upd] using hji
   have:=h.1
   omega
  rw [set_other e]
  exact h.2 i (by simpa using hi) (by simpa [upd,Ne.symm e] using hji)
 old:=fun b0 hlt h=>by
  refine ⟨hb b0 hlt,fun i hi hji=>?_⟩
  by_cases e:i=k
  ·have:b'=b0:=by simpa [upd,e] using hji
   omega
  ·exact h i (by simpa using hi) (by simpa [upd,e] using hji)
theorem Rel.tickNew {k b' sz n n':Nat} {vs:Array Value} {t:TypeId} (hM:M[k]?=some (.tick sz n)) (hr:Rel j M w) (q:Quiet w w') (hb:∀b,b<w.heap.size→w'.heap[b]?=w.heap[b]?)
  (hf:w.heap.size≤b') (hw':w'.heap[b']?=some (.cells vs t (0,0))) (hn:n<n'):Rel (upd j k (some b')) (M.set k (.tick sz n')) w':=by
 have ext:Ext j M w (upd j k (some b')) (M.set k (.tick sz n')) w':=Ext.tickNew hM q hb hf hn
 refine ⟨fun i i' b0 hi hi' h h'=>?_,fun i b0 hi h=>?_,fun i bx0 h hf=>?_,fun i sz0 n0 b0 h hji=>?_,fun i sz ver xs h=>?_,fun i b0 hi h off hx=>?_,fun b0 off h=>Nat.lt_of_lt_of_le (hr.xlt b0 off h) q.size⟩
 ·simp only [List.length_set] at hi hi'
  by_cases e:i=k<;>by_cases e':i'=k
  ·omega
  ·have h1:b'=b0:=by simpa [upd,e] using h
   have:=hr.lt i' b0 hi' (by simpa [upd,e'] using h')
   omega
  ·have h1:b'=b0:=by simpa [upd,e'] using h'
   have:=hr.lt i b0 hi (by simpa [upd,e] using h)
   omega
  ·exact hr.inj i i' b0 hi hi' (by simpa [upd,e] using h) (by simpa [upd,e'] using h')
 ·simp only [List.length_set] at hi
  by_cases e:i=k
  ·have h1:b'=b0:=by simpa [upd,e] using h
   subst h1
   exact lt_of_block hw'
  ·exact Nat.lt_of_lt_of_le (hr.lt i b0 hi (by simpa [upd,e] using h)) q.size
 ·have e:k≠i:=by rintro rfl; rw [set_same (lt_of_some hM)] at h; injection h with h; subst h; cases hf
  rw [set_other e] at h
  obtain ⟨b0,h1,h2⟩:=hr.fix i bx0 h hf
  exact ⟨b0,by simpa [upd,Ne.symm e] using h1,h2.mono ext (hb b0 (hr.lt i b0 (lt_of_some h) h1))⟩
 ·by_cases e:i=k
  ·have h1:b'=b0:=by simpa [upd,e] using hji
   subst h1
   exact ⟨vs,t,hw'⟩
  ·rw [set_other (Ne.symm e)] at h
   obtain ⟨vs0,t0,h1⟩:=hr.tick i sz0 n0 b0 h (by simpa [upd,e] using hji)
   exact ⟨vs0,t0,(hb b0 (lt_of_block h1)).trans h1⟩
 ·have e:k≠i:=by rintro rfl; rw [set_same (lt_of_some hM)] at h; cases h
  rw [set_other e] at h
  exact arr_keep hr ext h (by simp [upd,Ne.symm e]) fun b0 h1=>hb b0 (hr.lt i b0 (lt_of_some h) h1)
 ·by_cases e:i=k
  ·have h1:b'=b0:=by simpa [upd,e] using h
   have h2:=hr.xlt b0 off hx
   omega
  ·exact hr.xdis i b0 (by simpa using hi) (by simpa [upd,e] using h) off hx
end
end Go.Abs
namespace Go.Abs
open Go Go.RowKit
section
variable {j:J} {M:AMem} {w w':World}
def ArrAt (j:J) (M:AMem) (w:World) (b sz:Nat) (xs:List AVal):Prop:=∃vs t,w.heap[b]?=some (.cells vs t (0,0))∧xs.length*sz≤vs.size∧(∀x,x∈xs→x.cells.length=sz) ∧
  ∀(q:Nat) (x:AVal) (k:Nat) (c:AVal),xs[q]?=some x→x.cells[k]?=some c→∃v,vs[q*sz+k]?=some v∧RepP w (Saf j M w) c v
theorem Ext.arrIn {id b sz ver ver':Nat} {xs xs':List AVal} (hM:M[id]?=some (.arr sz ver xs)) (hj:j id=some b) (hr:Rel j M w) (q:Quiet w w')
  (hb:∀b',b'≠b→b'<w.heap.size→w'.heap[b']?=w.heap[b']?) (hw:∀vs t,w.heap[b]?=some (.cells vs t (0,0))→∃vs',w'.heap[b]?=some (.cells vs' t (0,0))∧vs'.size=vs.size)
  (hv:ver≤ver') (hl:ver'=ver→xs'.length=xs.length):Ext j M w j (M.set id (.arr sz ver' xs')) w' where
 len:=by simp
 size:=q.size
 os:=q.os
 tape:=q.tape
 output:=q.output
 X:=rfl
 fix:=fun i b0 h hf=>⟨rfl,by
  have e:id≠i:=by rintro rfl; rw [hM] at h; injection h with h; subst h; cases hf
  exact ⟨b0,by rw [set_other e]; exact h,rfl⟩⟩
 tick:=fun i sz0 n0 h=>by
  have e:id≠i:=by rintro rfl; rw [hM] at h; cases h
  refine ⟨n0,Nat.le_refl _,by rw [set_other e]; exact h,fun _=>⟨rfl,fun b' vs0 t0 hb' hv=>⟨vs0,?_,rfl⟩⟩⟩
  refine (hb b' ?_ (lt_of_block hv)).trans hv
  rintro rfl
  exact e (hr.inj _ _ _ (lt_of_some hM) (lt_of_some h) hj hb')
 arr:=fun i sz0 v0 xs0 h=>by
  by_cases e:id=i
  ·subst e
   rw [hM] at h
   injection h with h; injection h with e1 e2 e3
   subst e1; subst e2; subst e3
   refine .inr ⟨ver',xs',set_same (lt_of_some hM),hv,fun he=>⟨rfl,hl he,fun b' vs t hb' hv=>?_⟩⟩
   rw [hj] at hb'; injection hb' with hb'; subst hb'
   exact hw vs t hv
  ·refine .inr ⟨v0,xs0,by rw [set_other e]; exact h,Nat.le_refl _,fun _=>⟨rfl,rfl,fun b' vs t hb' hv=>⟨vs,?_,rfl⟩⟩⟩
   refine (hb b' ?_ (lt_of_block hv)).trans hv
   rintro rfl
   exact e (hr.inj _ _ _ (lt_of_some hM) (lt_of_some h) hj hb')
 tags:=fun b0 vs0 t0 fr0 h=>by
  by_cases e:b0=b
  ·subst e
   obtain ⟨b',vs,t,g1,g2,_⟩:=hr.arr _ _ _ _ hM
   rw [hj] at g1; injection g1 with g1; subst g1
   rw [g2] at h; injection h with h; injection h with h1 h2 h3
   subst h1; subst h2
   obtain ⟨vs',k1,k2⟩:=hw vs t g2
   exact ⟨_,_,k1,k2⟩
  ·exact ⟨vs0,fr0,(hb b0 e (lt_of_block h)).trans h,rfl⟩
 saf:=fun b0 off h=>by
  have hne:b0≠b:=by
   rintro rfl
   obtain ⟨sz,n,h1,_⟩:=h.2 id (lt_of_some hM) hj
   rw [hM] at h1; cases h1
  refine ⟨⟨Nat.lt_of_lt_of_le h.1 q.size,fun i hi hji=>?_,h.3⟩,World.cell?_of_block (w:=w) (hb b0 hne h.1)⟩
  have e:id≠i:=by rintro rfl; rw [hj] at hji; injection hji with hji; exact hne hji.symm
  rw [set_other e]
  exact h.2 i (by simpa using hi) hji
 old:=fun b0 hlt h=>by
  have hne:b0≠b:=by rintro rfl; exact h id (lt_of_some hM) hj
  exact ⟨hb b0 hne hlt,fun i hi=>h i (by simpa using hi)⟩
theorem Rel.arrIn {id b sz ver ver':Nat} {xs xs':List AVal} (hM:M[id]?=some (.arr sz ver xs)) (hj:j id=some b) (hr:Rel j M w) (q:Quiet w w')
  (hb:∀b',b'≠b→b'<w.heap.size→w'.heap[b']?=w.heap[b']?) (hw:∀vs t,w.heap[b]?=some (.cells vs t (0,0))→∃vs',w'.heap[b]?=some (.cells vs' t (0,0))∧vs'.size=vs.size)
  (hv:ver≤ver') (hl:ver'=ver→xs'.length=xs.length) (hh:∀j' M',Ext j M w j' M' w'→ArrAt j' M' w' b sz xs'):Rel j (M.set id (.arr sz ver' xs')) w':=by
 have ext:Ext j M w j (M.set id (.arr sz ver' xs')) w':=Ext.arrIn hM hj hr q hb hw hv hl
 refine ⟨fun i i' b0 hi hi'=>hr.inj i i' b0 (by simpa using hi) (by simpa using hi'),fun i b0 hi h=>Nat.lt_of_lt_of_le (hr.lt i b0 (by simpa using hi) h) q.size,fun i bx0 h hf=>?_,fun i sz0 n0 b0 h hji=>?_,fun i sz0 v0 xs0 h=>?_,fun i b0 hi h=>hr.xdis i b0 (by simpa using hi) h,fun b0 off h=>Nat.lt_of_lt_of_le (hr.xlt b0 off h) q.size⟩
 ·have e:id≠i:=by rintro rfl; rw [set_same (lt_of_some hM)] at h; injection h with h; subst h; cases hf
  rw [set_other e] at h
  obtain ⟨b0,h1,h2⟩:=hr.fix i bx0 h hf
  refine ⟨b0,h1,h2.mono ext (hb b0 ?_ (hr.lt i b0 (lt_of_some h) h1))⟩
  rintro rfl
  exact e (hr.inj _ _ _ (lt_of_some hM) (lt_of_some h) hj h1)
 ·have e:id≠i:=by rintro rfl; rw [set_same (lt_of_some hM)] at h; cases h
  rw [set_other e] at h
  obtain ⟨vs,t0,h1⟩:=hr.tick i sz0 n0 b0 h hji
  refine ⟨vs,t0,(hb b0 ?_ (lt_of_block h1)).trans h1⟩
  rintro rfl
  exact e (hr.inj _ _ _ (lt_of_some hM) (lt_of_some h) hj hji)
 ·by_cases e:id=i
  ·subst e
   rw [set_same (lt_of_some hM)] at h
   injection h with h; injection h with e1 e2 e3
   subst e1; subst e2; subst e3
   obtain ⟨vs,t,g⟩:=hh _ _ ext
   exact ⟨b,vs,t,hj,g⟩
  ·rw [set_other e] at h
   refine arr_keep hr ext h rfl fun b0 h1=>hb b0 ?_ (hr.lt i b0 (lt_of_some h) h1)
   rintro rfl
   exact e (hr.inj _ _ _ (lt_of_some hM) (lt_of_some h) hj h1)
theorem Ext.freeze {id sz ver:Nat} {xs:List AVal} (hM:M[id]?=some (.arr sz ver xs)):Ext j M w j (M.set id (.tick sz xs.length)) w where
 len:=by simp
 size:=Nat.le_refl _
 os:=rfl
 tape:=rfl
 output:=rfl
 X:=rfl
 fix:=fun i b0 h hf=>⟨rfl,by
  have e:id≠i:=by rintro rfl; rw [hM] at h; injection h with h; subst h; cases hf
  exact ⟨b0,by rw [set_other e]; exact h,rfl⟩⟩
 tick:=fun i sz0 n0 h=>by
  have e:id≠i:=by rintro rfl; rw [hM] at h; cases h
  exact ⟨n0,Nat.le_refl _,by rw [set_other e]; exact h,fun _=>⟨rfl,fun b' vs0 t0 hb' hv=>⟨vs0,hv,rfl⟩⟩⟩
 arr:=fun i sz0 v0 xs0 h=>by
  by_cases e:id=i
  ·subst e
   rw [hM] at h
   injection h with h; injection h with e1 e2 e3
   subst e1; subst e2; subst e3
   exact .inl ⟨_,set_same (lt_of_some hM)⟩
  ·exact .inr ⟨v0,xs0,by rw [set_other e]; exact h,Nat.le_refl _,fun _=>⟨rfl,rfl,fun b' vs t hb' hv=>⟨vs,hv,rfl⟩⟩⟩
 tags:=fun b vs t fr h=>⟨vs,fr,h,rfl⟩
 saf:=fun b0 off h=>by
  refine ⟨⟨h.1,fun i hi hji=>?_,h.3⟩,rfl⟩
  have e:id≠i:=by
   rintro rfl
   obtain ⟨sz,n,h1,_⟩:=h.2 id (lt_of_some hM) hji
   rw [hM] at h1; cases h1
  rw [set_other e]
  exact h.2 i (by simpa using hi) hji
 old:=fun b0 hlt h=>⟨rfl,fun i hi=>h i (by simpa using hi)⟩
theorem Rel.freeze {id sz ver:Nat} {xs:List AVal} (hM:M[id]?=some (.arr sz ver xs)) (hr:Rel j M w):Rel j (M.set id (.tick sz xs.length)) w:=by
 have ext:Ext j M w j (M.set id (.tick sz xs.length)) w:=Ext.freeze hM
 refine ⟨fun i i' b0 hi hi'=>hr.inj i i' b0 (by simpa using hi) (by simpa using hi'),fun i b0 hi h=>hr.lt i b0 (by simpa using hi) h,fun i bx0 h hf=>?_,fun i sz0 n0 b0 h hji=>?_,fun i sz0 v0 xs0 h=>?_,fun i b0 hi h=>hr.xdis i b0 (by simpa using hi) h,hr.xlt⟩
 ·have e:id≠i:=by rintro rfl; rw [set_same (lt_of_some hM)] at h; injection h with h; subst h; cases hf
  rw [set_other e] at h
  obtain ⟨b0,h1,h2⟩:=hr.fix i bx0 h hf
  exact ⟨b0,h1,h2.mono ext rfl⟩
 ·by_cases e:id=i
  ·subst e
   obtain ⟨b,vs,t,g1,g2,_⟩:=hr.arr id sz ver xs hM
   rw [hji] at g1; injection g1 with g1; subst g1
   exact ⟨vs,t,g2⟩
  ·rw [set_other e] at h
   exact hr.tick i sz0 n0 b0 h hji
 ·have e:id≠i:=by rintro rfl; rw [set_same (lt_of_some hM)] at h; cases h
  rw [set_other e] at h
  exact arr_keep hr ext h rfl fun b0 h1=>rfl
end
theorem arr_slice {w:World} {saf saf':Nat→Nat→Prop} {b lo hi sz cap:Nat} {vs:Array Value} {t:TypeId} {xs:List AVal} (hw:w.heap[b]?=some (.cells vs t (0,0))) (hwid:∀x,x∈xs→x.cells.length=sz)
  (hc:∀(q:Nat) (x:AVal) (k:Nat) (c:AVal),xs[q]?=some x→x.cells[k]?=some c→∃v,vs[q*sz+k]?=some v∧RepP w saf c v) (hm:∀b off,saf b off→saf' b off) (hs:∀off,off<xs.length*sz→saf' b off)
  (h1:lo≤hi) (h2:hi≤xs.length) (h3:hi-lo≤cap):RepP w saf' (.slice .sh ((xs.take hi).drop lo)) (.slice (some ⟨b,lo*sz,none⟩) (hi-lo) cap):=by
 have hget:∀(i:Nat) (x:AVal),((xs.take hi).drop lo)[i]?=some x→xs[lo+i]?=some x∧lo+i<hi:=by
  intro i x h
  rw [List.getElem?_drop] at h
  have hlt:lo+i<hi:=by have:=lt_of_some h; simp at this; omega
  rw [List.getElem?_take_of_lt hlt] at h
  exact ⟨h,hlt⟩
 have idx:∀i k,lo*sz+(i*sz+k)=(lo+i)*sz+k:=fun i k=>by rw [Nat.add_mul]; omega
 refine .slice _ _ _ _ b (lo*sz) sz (fun p=>(vs[lo*sz+p]?).getD undef) (by simp; omega) (by omega) (fun _=>rfl) (fun x hx=>hwid x (List.mem_of_mem_take (List.mem_of_mem_drop hx))) (fun i x k c hx hk=>?_) fun i x k c hx hk=>?_
 ·obtain ⟨g1,g2⟩:=hget i x hx
  obtain ⟨v,g3,g4⟩:=hc _ x k c g1 hk
  have hk':k<sz:=by rw [←hwid x (List.mem_of_getElem? g1)]; exact lt_of_some hk
  rw [idx]
  refine ⟨by simp [World.cell?,hw,g3],hs _ ?_⟩
  calc (lo+i)*sz+k<(lo+i)*sz+sz:=by omega
   _=(lo+i+1)*sz:=by rw [Nat.add_mul (lo+i) 1]; omega
   _≤xs.length*sz:=Nat.mul_le_mul_right _ (by omega)
 ·obtain ⟨g1,g2⟩:=hget i x hx
  obtain ⟨v,g3,g4⟩:=hc _ x k c g1 hk
  simp only [idx,g3,Option.getD_some]
  exact g4.mono fun b off h=>⟨hm b off h,rfl⟩
end Go.Abs
namespace Go.Abs
open Go Go.RowKit
variable [Globs]
def SoundCall (P:Program) (f:Nat) (args:List AVal) (M:AMem) (x:AVal×AMem):Prop :=
 ∀(j:J) (w:World) (vs:Array Value),Rel j M w→Glob j M w→args.length=vs.size→(∀(i:Nat) (c:AVal) (v:Value),args[i]?=some c→vs[i]?=some v→Rep j M w c v) →
  Calls P f vs w fun e w'=>∃v j',e = .returned v∧Rel j' x.2 w'∧Ext j M w j' x.2 w'∧Rep j' x.2 w' x.1 v
def SoundC (P:Program) (C:CallF):Prop:=∀f a M x,C f a M=some x→enterable P f=true∧SoundCall P f a M x
def OpOk (j:J) (M:AMem) (w:World) (x:AVal×AMem) (v:Value) (w':World):Prop:=∃j',Rel j' x.2 w'∧Ext j M w j' x.2 w'∧Rep j' x.2 w' x.1 v
section
variable {j:J} {M:AMem} {w:World} {P:Program}
theorem OpOk.still {v:Value} {y:AVal} (hr:Rel j M w) (h:Rep j M w y v):OpOk j M w (y,M) v w:=⟨j,hr,Ext.refl j M w,h⟩
theorem absV_rep {v:Value} {x:AVal} (h:absV v=some x):Rep j M w x v:=by
 unfold absV at h
 split at h<;>first
  |(injection h with h; subst h; first|exact .plain (.bool _)|exact .plain (.int _ _)|exact .plain (.str _)|exact .plain (.raw _ rfl)|exact .c0 _)
  |cases h
theorem absP_rep {saf:Nat→Nat→Prop}:∀ {vs:List Value} {l:List AVal},absP vs=some l→l.length=vs.length∧∀(i:Nat) (c:AVal) (v:Value),l[i]?=some c→vs[i]?=some v→RepP w saf c v
 | [],l,h=>by
  simp [absP] at h; subst h
  exact ⟨rfl,fun i c v h=>by simp at h⟩
 |v::r,l,h=>by
  simp only [absP] at h
  rw [Option.bind_eq_some_iff] at h
  obtain ⟨x,hx,h⟩:=h
  rw [Option.bind_eq_some_iff] at h
  obtain ⟨l',hl,h⟩:=h
  injection h with h; subst h
  obtain ⟨h1,h2⟩:=absP_rep hl
  refine ⟨by simp [h1],fun i c u hc hu=>?_⟩
  cases i with
  |zero =>
   simp at hc hu; subst hc; subst hu
   unfold absP1 at hx
   split at hx<;>first
    |(injection hx with hx; subst hx; first|exact .bool _|exact .int _ _|exact .str _|exact .raw _ rfl)
    |cases hx
  |succ i=>exact h2 i c u (by simpa using hc) (by simpa using hu)
theorem absL_rep:∀ {vs:List Value} {l:List AVal},absL vs=some l→l.length=vs.length∧∀(i:Nat) (c:AVal) (v:Value),l[i]?=some c→vs[i]?=some v→Rep j M w c v
 | [],l,h=>by
  simp [absL] at h; subst h
  exact ⟨rfl,fun i c v h=>by simp at h⟩
 |v::r,l,h=>by
  simp only [absL] at h
  rw [Option.bind_eq_some_iff] at h
  obtain ⟨x,hx,h⟩:=h
  rw [Option.bind_eq_some_iff] at h
  obtain ⟨l',hl,h⟩:=h
  injection h with h; subst h
  obtain ⟨h1,h2⟩:=absL_rep hl
  refine ⟨by simp [h1],fun i c u hc hu=>?_⟩
  cases i with
  |zero=>simp at hc hu; subst hc; subst hu; exact absV_rep hx
  |succ i=>exact h2 i c u (by simpa using hc) (by simpa using hu)
theorem absT_rep {v:Value} {x:AVal} (h:absT v=some x):Rep j M w x v:=by
 unfold absT at h
 split at h
 ·rename_i vs
  rw [Option.bind_eq_some_iff] at h
  obtain ⟨l,hl,h⟩:=h
  injection h with h; subst h
  obtain ⟨h1,h2⟩:=absL_rep (j:=j) (M:=M) (w:=w) hl
  exact .agg (by simpa using h1) fun i c v hc hv=>h2 i c v hc (by simpa using hv)
 ·exact absV_rep h
theorem opd_rep {env:Env} {a:Act} (he:EnvRep j M w env a) {x:Operand} {y:Opd} (h:cOpd x=some y):Rep j M w (y.ev env) (a.eval x):=by
 unfold cOpd at h
 split at h
 ·injection h with h; subst h; exact he.at' _
 ·rw [Option.bind_eq_some_iff] at h
  obtain ⟨z,hz,h⟩:=h
  injection h with h; subst h
  exact absT_rep hz
 ·injection h with h; subst h
  exact .func (by simp) fun i c v hc=>by simp at hc
 ·rename_i g
  rw [Option.bind_eq_some_iff] at h
  obtain ⟨vs,hg,h⟩:=h
  rw [Option.bind_eq_some_iff] at h
  obtain ⟨l,hl,h⟩:=h
  injection h with h; subst h
  obtain ⟨h1,h2⟩:=absP_rep (w:=w) (saf:=Saf j M w) hl
  refine .rptr (b:=g) (off:=0) (vs:=fun k=>(vs[k]?).getD undef) fun k c hk=>?_
  have hk':=lt_of_some hk
  have hv:vs[k]?=some (vs[k]'(by omega)):=List.getElem?_eq_getElem (by omega)
  obtain ⟨h3,h4⟩:=he.gl.g g vs k _ hg hv
  rw [Nat.zero_add,h4,hv]
  exact ⟨rfl,h3,h2 k c _ hk hv⟩
theorem opds_rep {env:Env} {a:Act} (he:EnvRep j M w env a):∀ {xs:List Operand} {ys:List Opd},cOpds xs=some ys →
  ys.length=xs.length∧∀(i:Nat) (y:Opd) (x:Operand),ys[i]?=some y→xs[i]?=some x→Rep j M w (y.ev env) (a.eval x)
 | [],ys,h=>by
  simp [cOpds] at h; subst h
  exact ⟨rfl,fun i y x h=>by simp at h⟩
 |x::r,ys,h=>by
  simp only [cOpds] at h
  rw [Option.bind_eq_some_iff] at h
  obtain ⟨y,hy,h⟩:=h
  rw [Option.bind_eq_some_iff] at h
  obtain ⟨l,hl,h⟩:=h
  injection h with h; subst h
  obtain ⟨h1,h2⟩:=opds_rep he hl
  refine ⟨by simp [h1],fun i y' x' hy' hx'=>?_⟩
  cases i with
  |zero=>simp at hy' hx'; subst hy'; subst hx'; exact opd_rep he hy
  |succ i=>exact h2 i y' x' (by simpa using hy') (by simpa using hx')
theorem Rep.bool_inv {b:Bool} {v:Value} (h:Rep j M w (.bool b) v):v = .bool b:=by cases h with|plain h=>cases h; rfl
theorem Rep.int_inv {k:IntKind} {n:Int} {v:Value} (h:Rep j M w (.int k n) v):v = .int k n:=by cases h with|plain h=>cases h; rfl
theorem Rep.str_inv {s:List UInt8} {v:Value} (h:Rep j M w (.str s) v):v = .string (bs s):=by cases h with|plain h=>cases h; rfl
theorem Rep.agg_inv {cs:List AVal} {v:Value} (h:Rep j M w (.agg cs) v):∃vs,v = .agg vs∧cs.length=vs.size∧∀(i:Nat) (c:AVal) (u:Value),cs[i]?=some c→vs[i]?=some u→Rep j M w c u:=by
 cases h with
 |plain h=>cases h
 |agg hl h=>exact ⟨_,rfl,hl,h⟩
theorem Rep.tuple_inv {cs:List AVal} {v:Value} (h:Rep j M w (.tuple cs) v):∃vs,v = .tuple vs∧cs.length=vs.size∧∀(i:Nat) (c:AVal) (u:Value),cs[i]?=some c→vs[i]?=some u→Rep j M w c u:=by
 cases h with
 |plain h=>cases h
 |tuple hl h=>exact ⟨_,rfl,hl,h⟩
theorem Rep.func_inv {f:Nat} {cs:List AVal} {v:Value} (h:Rep j M w (.func f cs) v):∃vs,v = .func (.func f) #[] vs∧cs.length=vs.size∧∀(i:Nat) (c:AVal) (u:Value),cs[i]?=some c→vs[i]?=some u→Rep j M w c u:=by
 cases h with
 |plain h=>cases h
 |func hl h=>exact ⟨_,rfl,hl,h⟩
theorem Rep.ptr_inv {id off:Nat} {v:Value} (h:Rep j M w (.ptr id off) v):∃b,id<M.length∧(∃cs,M[id]?=some (.cells cs))∧j id=some b∧v = .pointer (some ⟨b,off,none⟩):=by
 cases h with
 |plain h=>cases h
 |ptr h1 h2 h3=>exact ⟨_,h1,h2,h3,rfl⟩
theorem Rep.mref_inv {id:Nat} {v:Value} (h:Rep j M w (.mref id) v):∃b,(∃ks vs,M[id]?=some (.map ks vs))∧j id=some b∧v = .map (some b):=by
 cases h with
 |plain h=>cases h
 |mref h1 h2=>exact ⟨_,h1,h2,rfl⟩
theorem Rep.iref_inv {id:Nat} {v:Value} (h:Rep j M w (.iref id) v):∃b,(∃s p,M[id]?=some (.siter s p))∧j id=some b∧v = .pointer (some ⟨b,0,none⟩):=by
 cases h with
 |plain h=>cases h
 |iref h1 h2=>exact ⟨_,h1,h2,rfl⟩
theorem Rep.mfn_inv {f:Nat} {fs:List AVal} {v:Value} (h:Rep j M w (.mfn f fs) v):∃vs:Array Value,v = .func (.func f) vs #[]∧fs.length=vs.size∧∀(i:Nat) (c:AVal) (v:Value),fs[i]?=some c→vs[i]?=some v→RepD w (Saf j M w) c v:=by
 cases h with
 |plain h=>cases h
 |mfn hl h=>exact ⟨_,rfl,hl,h⟩
theorem Rep.bself_inv {id t:Nat} {v:Value} (h:Rep j M w (.bself id t) v):∃b:Nat,(∃cs,M[id]?=some (.cells cs))∧j id=some b∧(∃vs fr,w.heap[b]?=some (.cells vs t fr))∧(v = .pointer none∨v = .pointer (some ⟨b,0,none⟩)):=by
 cases h with
 |plain h=>cases h
 |bself h1 h2 h3 h4=>exact ⟨_,h1,h2,h3,h4⟩
theorem Rep.obuf_inv {k t:Nat} {x:Bool} {l:List UInt8} {v:Value} (h:Rep j M w (.obuf k t x l) v):∃n,M[k]?=some (.tick 1 n)∧l.length≤n∧RepP w (Saf j M w) (.slice .sh (l.map u8V)) v∧(l.length=n→TickT j w k n t x v):=by
 cases h with
 |plain h=>cases h
 |obuf h1 h2 h3 h4=>exact ⟨_,h1,h2,h3,h4⟩
theorem Rep.fmap_inv {ks vs:List AVal} {v:Value} (h:Rep j M w (.fmap ks vs) v):∃(b:Nat) (es:Array MapEntry) (clock:Nat),v = .map (some b)∧w.heap[b]?=some (.map es clock)∧ks.length=es.size∧vs.length=es.size ∧
  (∀(i:Nat) (k:AVal) (e:MapEntry),ks[i]?=some k→es[i]?=some e→RepP w (Saf j M w) k e.key)∧∀(i:Nat) (v:AVal) (e:MapEntry),vs[i]?=some v→es[i]?=some e→RepD w (Saf j M w) v e.val:=by
 cases h with
 |plain h=>cases h
 |fmap hb hf hx hw hk hv hks hvs=>exact ⟨_,_,_,rfl,hw,hk,hv,hks,hvs⟩
theorem Rep.aref_inv {id ver sz lo hi:Nat} {v:Value} (h:Rep j M w (.aref id ver sz lo hi) v):(∃b off c,v = .slice (some ⟨b,off,none⟩) (hi-lo) c∧hi-lo≤c)∧id<M.length∧(∀bx,M[id]?=some bx→bx.fixed=false) ∧
  ∀sz' v' xs,M[id]?=some (.arr sz' v' xs)→ver≤v'∧(v'=ver→sz'=sz∧lo≤hi∧hi≤xs.length∧∃b cap vs t,j id=some b∧v = .slice (some ⟨b,lo*sz,none⟩) (hi-lo) cap∧hi-lo≤cap∧w.heap[b]?=some (.cells vs t (0,0))∧(lo+cap)*sz≤vs.size):=by
 cases h with
 |plain h=>cases h
 |aref h0 h1 h2 h3=>exact ⟨h0,h1,h2,h3⟩
theorem Rep.eptr_inv {id ver i off:Nat} {v:Value} (h:Rep j M w (.eptr id ver i off) v):(∃b o,v = .pointer (some ⟨b,o,none⟩))∧id<M.length∧(∀bx,M[id]?=some bx→bx.fixed=false) ∧
  ∀sz v' xs,M[id]?=some (.arr sz v' xs)→ver≤v'∧(v'=ver→i<xs.length∧∃b,j id=some b∧v = .pointer (some ⟨b,i*sz+off,none⟩)):=by
 cases h with
 |plain h=>cases h
 |eptr h0 h1 h2 h3=>exact ⟨h0,h1,h2,h3⟩
theorem Rep.rptr_inv {cs:List AVal} {v:Value} (h:Rep j M w (.rptr cs) v):∃(b off:Nat) (vs:Nat→Value),v = .pointer (some ⟨b,off,none⟩) ∧
  ∀(k:Nat) (c:AVal),cs[k]?=some c→w.cell? ⟨b,off+k,none⟩=some (vs k)∧Saf j M w b (off+k)∧RepP w (Saf j M w) c (vs k):=by
 cases h with
 |plain h=>cases h
 | @rptr _ b off vs h=>exact ⟨b,off,vs,rfl,h⟩
theorem RepP.nil (saf:Nat→Nat→Prop) (A:Option Addr) (cap:Nat):RepP w saf (.slice .sh []) (.slice A 0 cap) :=
 .slice [] A 0 cap 0 0 0 (fun _=>undef) rfl (Nat.zero_le _) (fun h=>absurd rfl h) (fun x h=>by simp at h) (fun i x k c h=>by simp at h) (fun i x k c h=>by simp at h)
theorem Rep.slice_inv {tk:Tk} {xs:List AVal} {v:Value} (h:Rep j M w (.slice tk xs) v):RepP w (Saf j M w) (.slice .sh xs) v:=by
 cases h with
 |plain h=>cases h with|slice=>exact .slice _ _ _ _ _ _ _ _ (by assumption) (by assumption) (by assumption) (by assumption) (by assumption) (by assumption)
 |c0 A=>exact RepP.nil _ _ _
 |own _ _ h _=>exact h
theorem RepP.slice_inv {saf:Nat→Nat→Prop} {xs:List AVal} {v:Value} (h:RepP w saf (.slice .sh xs) v):∃(A:Option Addr) (cap b off sz:Nat) (vs:Nat→Value),v = .slice A xs.length cap∧xs.length≤cap∧(xs≠[]→A=some ⟨b,off,none⟩) ∧
  (∀x,x∈xs→x.cells.length=sz)∧(∀(i:Nat) (x:AVal) (k:Nat) (c:AVal),xs[i]?=some x→x.cells[k]?=some c→w.cell? ⟨b,off+(i*sz+k),none⟩=some (vs (i*sz+k))∧saf b (off+(i*sz+k))) ∧
  (∀(i:Nat) (x:AVal) (k:Nat) (c:AVal),xs[i]?=some x→x.cells[k]?=some c→RepP w saf c (vs (i*sz+k))):=by
 cases h with
 |slice _ A len cap b off sz vs hl hc ha hz hs hr=>subst hl; exact ⟨A,cap,b,off,sz,vs,rfl,hc,ha,hz,hs,hr⟩
end
end Go.Abs
namespace Go.Abs
open Go Go.RowKit
variable [Globs]
def Ran (P:Program) (o:Oper) (a:Act) (w:World) (v:Value) (w':World):Prop :=
 (execOp a.eval o).run P w = .ok (.value v) w'∨((execOp a.eval o).run P w = .ok .skip w'∧v=undef)
theorem bind_inv {α β:Type} {x:Option α} {f:α→Option β} {y:β} (h:x.bind f=some y):∃a,x=some a∧f a=some y:=by
 cases x with
 |none=>cases h
 |some a=>exact ⟨a,rfl,h⟩
section
variable {P:Program} {C:CallF} {o:Oper} {env:Env} {M:AMem} {j:J} {w:World} {a:Act} {x:AVal×AMem}
theorem run_und {t:TypeId} {d:TypeDesc} (h:P.underlying t=some d):(underlying t).run P w = .ok d w:=by simp [underlying,h]
theorem run_info {t:TypeId} {i:TypeInfo} (h:P.info? t=some i):(typeInfo t).run P w = .ok i w:=by simp [typeInfo,h]
theorem szOf_inv {t:TypeId} {n:Nat} (h:szOf P t=some n):∃i,P.info? t=some i∧i.size=n:=by
 obtain ⟨i,h1,h2⟩:=bind_inv h
 exact ⟨i,h1,by injection h2⟩
theorem run_size {t:TypeId} {n:Nat} (h:szOf P t=some n):(sizeOf t).run P w = .ok n w:=by
 obtain ⟨i,h1,h2⟩:=szOf_inv h
 simp [sizeOf,run_info h1,h2]
theorem run_isAgg {t:TypeId} {g:Bool} (h:aggQ P t=some g):(isAgg t).run P w = .ok g w:=by
 obtain ⟨d,h1,h2⟩:=bind_inv h
 injection h2 with h2
 subst h2
 simp only [isAgg,Sem.run_bind,run_und h1,Result.andThen_ok]
 cases d<;>rfl
theorem addr_add (b off n:Nat):(⟨b,off,none⟩:Addr).add n=⟨b,off+n,none⟩:=by
 unfold Addr.add; split<;>simp_all
theorem op_move (hr:Rel j M w) (he:EnvRep j M w env a) {y:Operand} {z:Opd} (hop:o.op = .move y∨o.op = .assign y) (hz:cOpd y=some z) (h:aop C env M (.mv z)=some x) :
  ∃v w',Ran P o a w v w'∧OpOk j M w x v w':=by
 simp only [aop] at h; injection h with h; subst h
 exact ⟨a.eval y,w,.inl (by rcases hop with hop|hop<;>simp [execOp,hop]),.still hr (opd_rep he hz)⟩
theorem op_pick (hr:Rel j M w) (he:EnvRep j M w env a) {c p q:Operand} {c' p' q':Opd} (hop:o.op = .pick c p q) (hc:cOpd c=some c') (hp:cOpd p=some p') (hq:cOpd q=some q')
  (h:aop C env M (.pick c' p' q')=some x):∃v w',Ran P o a w v w'∧OpOk j M w x v w':=by
 simp only [aop] at h
 have h1:=opd_rep he hc
 split at h
 ·rename_i t ht
  rw [ht] at h1
  have h1:=h1.bool_inv
  rcases oif_inv h with ⟨rfl,h⟩|⟨rfl,h⟩<;>(injection h with h; subst h)
  ·exact ⟨a.eval p,w,.inl (by simp [execOp,hop,asBool,h1]),.still hr (opd_rep he hp)⟩
  ·exact ⟨a.eval q,w,.inl (by simp [execOp,hop,asBool,h1]),.still hr (opd_rep he hq)⟩
 ·cases h
theorem op_chk (hr:Rel j M w) (he:EnvRep j M w env a) {y:Operand} {z:Opd} (hop:o.op = .nilCheck y) (hz:cOpd y=some z) (h:aop C env M (.chk z)=some x) :
  ∃v w',Ran P o a w v w'∧OpOk j M w x v w':=by
 simp only [aop] at h
 have h1:=opd_rep he hz
 split at h
 ·rename_i id off e
  injection h with h; subst h
  rw [e] at h1
  obtain ⟨b,_,_,_,hv⟩:=h1.ptr_inv
  exact ⟨_,w,.inl (by simp only [execOp,hop,hv]; rfl),.still hr (hv▸h1)⟩
 ·rename_i cs e
  injection h with h; subst h
  rw [e] at h1
  obtain ⟨b,off,vs,hv,_⟩:=h1.rptr_inv
  exact ⟨_,w,.inl (by simp only [execOp,hop,hv]; rfl),.still hr (hv▸h1)⟩
 ·rename_i f caps e
  injection h with h; subst h
  rw [e] at h1
  obtain ⟨vs,hv,_⟩:=h1.func_inv
  exact ⟨_,w,.inl (by simp only [execOp,hop,hv]; rfl),.still hr (hv▸h1)⟩
 ·rename_i id v0 i off e
  injection h with h; subst h
  rw [e] at h1
  obtain ⟨⟨b,q,hv⟩,_⟩:=h1.eptr_inv
  exact ⟨_,w,.inl (by simp only [execOp,hop,hv]; rfl),.still hr (hv▸h1)⟩
 ·cases h
theorem op_not (hr:Rel j M w) (he:EnvRep j M w env a) {y:Operand} {z:Opd} {t:TypeId} (hop:o.op = .unOp .not t y) (hz:cOpd y=some z) (h:aop C env M (.not z)=some x) :
  ∃v w',Ran P o a w v w'∧OpOk j M w x v w':=by
 simp only [aop] at h
 have h1:=opd_rep he hz
 split at h
 ·rename_i b e
  injection h with h; subst h
  rw [e] at h1
  exact ⟨_,w,.inl (by simp only [execOp,hop,h1.bool_inv]; rfl),.still hr (.plain (.bool _))⟩
 ·cases h
theorem op_neg (hr:Rel j M w) (he:EnvRep j M w env a) {y:Operand} {z:Opd} {t:TypeId} (hop:o.op = .unOp .neg t y) (hz:cOpd y=some z) (h:aop C env M (.neg z)=some x) :
  ∃v w',Ran P o a w v w'∧OpOk j M w x v w':=by
 simp only [aop] at h
 have h1:=opd_rep he hz
 split at h
 ·rename_i k n e
  injection h with h; subst h
  rw [e] at h1
  exact ⟨_,w,.inl (by simp only [execOp,hop,h1.int_inv]; rfl),.still hr (.plain (.int _ _))⟩
 ·cases h
theorem op_conv (hr:Rel j M w) (he:EnvRep j M w env a) {y:Operand} {z:Opd} {s d:TypeId} {k0 k:IntKind} (hop:o.op = .convert s d y) (hs:P.underlying s=some (.int k0)) (hd:P.underlying d=some (.int k))
  (hz:cOpd y=some z) (h:aop C env M (.conv k z)=some x):∃v w',Ran P o a w v w'∧OpOk j M w x v w':=by
 simp only [aop] at h
 have h1:=opd_rep he hz
 split at h
 ·rename_i k1 n e
  injection h with h; subst h
  rw [e] at h1
  refine ⟨.int k (k.wrap n),w,.inl ?_,.still hr (.plain (.int _ _))⟩
  simp [execOp,hop,convert,run_und hs,run_und hd,h1.int_inv,Conv.intToInt]
 ·cases h
theorem op_same (hr:Rel j M w) (he:EnvRep j M w env a) {y:Operand} {z:Opd} {s d:TypeId} (hop:o.op = .convert s d y) (hs:P.underlying s=some .string) (hd:P.underlying d=some .string)
  (hz:cOpd y=some z) (h:aop C env M (.same z)=some x):∃v w',Ran P o a w v w'∧OpOk j M w x v w':=by
 simp only [aop] at h
 have h1:=opd_rep he hz
 split at h
 ·rename_i l e
  injection h with h; subst h
  rw [e] at h1
  refine ⟨.string (bs l),w,.inl ?_,.still hr (.plain (.str _))⟩
  simp [execOp,hop,convert,run_und hs,run_und hd,h1.str_inv]
 ·cases h
theorem op_fn (hr:Rel j M w) (he:EnvRep j M w env a) {f:Nat} {first caps:Array Operand} {zs:List Opd} (hop:o.op = .makeFunc (.func f) first caps) (hf:first.isEmpty=true) (hz:cOpds caps.toList=some zs)
  (h:aop C env M (.fn f zs)=some x):∃v w',Ran P o a w v w'∧OpOk j M w x v w':=by
 simp only [aop] at h
 injection h with h; subst h
 obtain ⟨h1,h2⟩:=opds_rep he hz
 have hf':first = #[]:=by simpa using hf
 refine ⟨.func (.func f) #[] (caps.map a.eval),w,.inl ?_,.still hr (.func (by simpa using h1) fun i c v hc hv=>?_)⟩
 ·simp [execOp,hop,Instr.makeFunc,hf']
 ·rw [List.getElem?_map,Option.map_eq_some_iff] at hc
  obtain ⟨y,hy,rfl⟩:=hc
  rw [Array.getElem?_map,Option.map_eq_some_iff] at hv
  obtain ⟨z,hz',rfl⟩:=hv
  exact h2 i y z hy (by simpa using hz')
theorem op_extract (hr:Rel j M w) (he:EnvRep j M w env a) {y:Operand} {z:Opd} {i:Nat} (hop:o.op = .extract y i) (hz:cOpd y=some z) (h:aop C env M (.extract z i)=some x) :
  ∃v w',Ran P o a w v w'∧OpOk j M w x v w':=by
 simp only [aop] at h
 have h1:=opd_rep he hz
 split at h
 ·rename_i vs e
  obtain ⟨c,hc,h⟩:=obind_inv h
  injection h with h; subst h
  rw [e] at h1
  obtain ⟨us,hv,hl,hu⟩:=h1.tuple_inv
  rw [nth_eq] at hc
  have hi:=lt_of_some hc
  have hui:us[i]?=some (us[i]'(by omega)):=Array.getElem?_eq_getElem (by omega)
  exact ⟨_,w,.inl (by simp [execOp,hop,Instr.extract,hv,hui]),.still hr (hu i c _ hc hui)⟩
 ·cases h
theorem op_lenS (hr:Rel j M w) (he:EnvRep j M w env a) {c:Call} {y:Operand} {z:Opd} {t:TypeId} (hop:o.op = .call c) (hb:c.callee = .builtin .len) (ha:c.args.toList=[y])
  (ht:c.argTypes[0]?=some t) (hs:P.underlying t=some .string) (hz:cOpd y=some z) (h:aop C env M (.lenS z)=some x):∃v w',Ran P o a w v w'∧OpOk j M w x v w':=by
 simp only [aop] at h
 have h1:=opd_rep he hz
 split at h
 ·rename_i l e
  injection h with h; subst h
  rw [e] at h1
  have ha':c.args = #[y]:=by rw [←ha]
  refine ⟨.int .i64 l.length,w,.inl ?_,.still hr (.plain (.int _ _))⟩
  have hsz:(bs l).size=l.length:=by simp [bs,ByteArray.size]
  simp [execOp,hop,resolve,hb,invoke,builtin,Builtin.len_,ha',ht,run_und hs,h1.str_inv,goInt,hsz]
 ·cases h
theorem op_lenV (hr:Rel j M w) (he:EnvRep j M w env a) {c:Call} {y:Operand} {z:Opd} {t e:TypeId} (hop:o.op = .call c) (hb:c.callee = .builtin .len) (ha:c.args.toList=[y])
  (ht:c.argTypes[0]?=some t) (hs:P.underlying t=some (.slice e)) (hz:cOpd y=some z) (h:aop C env M (.lenV z)=some x):∃v w',Ran P o a w v w'∧OpOk j M w x v w':=by
 simp only [aop] at h
 have h1:=opd_rep he hz
 split at h
 ·rename_i tk l e
  injection h with h; subst h
  rw [e] at h1
  have ha':c.args = #[y]:=by rw [←ha]
  obtain ⟨A,cap,b,off,sz,vs,hv,_⟩:=h1.slice_inv.slice_inv
  refine ⟨.int .i64 l.length,w,.inl ?_,.still hr (.plain (.int _ _))⟩
  simp [execOp,hop,resolve,hb,invoke,builtin,Builtin.len_,ha',ht,run_und hs,hv,goInt]
 ·rename_i id v0 sz lo hi e
  injection h with h; subst h
  rw [e] at h1
  have ha':c.args = #[y]:=by rw [←ha]
  obtain ⟨⟨b,off,cap,hv,_⟩,_⟩:=h1.aref_inv
  refine ⟨.int .i64 (hi-lo:Nat),w,.inl ?_,.still hr (.plain (.int _ _))⟩
  simp [execOp,hop,resolve,hb,invoke,builtin,Builtin.len_,ha',ht,run_und hs,hv,goInt]
 ·cases h
theorem op_minmax (hr:Rel j M w) (he:EnvRep j M w env a) {c:Call} {y y':Operand} {z z':Opd} {mx:Bool} (hop:o.op = .call c) (hb:c.callee = .builtin (if mx then .max else .min)) (ha:c.args.toList=[y,y'])
  (hz:cOpd y=some z) (hz':cOpd y'=some z') (h:aop C env M (.minmax mx z z')=some x):∃v w',Ran P o a w v w'∧OpOk j M w x v w':=by
 simp only [aop] at h
 have h1:=opd_rep he hz
 have h2:=opd_rep he hz'
 split at h
 ·rename_i k n k' n' e e'
  injection h with h; subst h
  rw [e] at h1
  rw [e'] at h2
  have ha':c.args = #[y,y']:=by rw [←ha]
  refine ⟨_,w,.inl ?_,.still hr (.plain (.int _ _))⟩
  cases mx
  ·simp [execOp,hop,resolve,hb,invoke,builtin,Builtin.min_,Builtin.min2,ha',h1.int_inv,h2.int_inv,List.foldlM]
  ·simp [execOp,hop,resolve,hb,invoke,builtin,Builtin.max_,Builtin.max2,ha',h1.int_inv,h2.int_inv,List.foldlM]
 ·cases h
theorem op_indexS (hr:Rel j M w) (he:EnvRep j M w env a) {y i:Operand} {z z':Opd} {t:TypeId} (hop:o.op = .index t y i) (ht:P.underlying t=some .string) (hz:cOpd y=some z) (hz':cOpd i=some z')
  (h:aop C env M (.indexS z z')=some x):∃v w',Ran P o a w v w'∧OpOk j M w x v w':=by
 simp only [aop] at h
 have h1:=opd_rep he hz
 have h2:=opd_rep he hz'
 split at h
 ·rename_i l k n e e'
  obtain ⟨hn,h⟩:=owhen_inv h
  obtain ⟨b,hb,h⟩:=obind_inv h
  injection h with h; subst h
  rw [e] at h1
  rw [e'] at h2
  refine ⟨.int .u8 b.toNat,w,.inl ?_,.still hr (.plain (.int _ _))⟩
  have hg:(bs l)[n.toNat]?=some b:=by
   have hlt:=lt_of_some hb
   have:n.toNat<(bs l).size:=by simp [bs,ByteArray.size]; exact hlt
   rw [getElem?_pos (bs l) n.toNat this]
   congr 1
   have h3:l[n.toNat]=b:=by
    have:=List.getElem?_eq_getElem hlt
    rw [hb] at this; injection this with this; exact this.symm
   exact h3
  simp [execOp,hop,Instr.index,asIntOf,run_und ht,h1.str_inv,h2.int_inv,hn,hg]
 ·cases h
theorem op_field1 (hr:Rel j M w) (he:EnvRep j M w env a) {y:Operand} {z:Opd} {s:TypeId} {fs:Array Field} {f:Field} {i:Nat} (hop:o.op = .field s y i) (hs:P.underlying s=some (.struct fs)) (hf:fs[i]?=some f)
  (hg:aggQ P f.type=some false) (hz:cOpd y=some z) (h:aop C env M (.field1 f.offset z)=some x):∃v w',Ran P o a w v w'∧OpOk j M w x v w':=by
 simp only [aop] at h
 have h1:=opd_rep he hz
 split at h
 ·rename_i cs e
  obtain ⟨c,hc,h⟩:=obind_inv h
  injection h with h; subst h
  rw [e] at h1
  obtain ⟨us,hv,hl,hu⟩:=h1.agg_inv
  rw [nth_eq] at hc
  have hi:=lt_of_some hc
  have hui:us[f.offset]?=some (us[f.offset]'(by omega)):=Array.getElem?_eq_getElem (by omega)
  refine ⟨_,w,.inl ?_,.still hr (hu _ c _ hc hui)⟩
  simp [execOp,hop,Instr.field,run_und hs,hf,asAgg,hv,part,run_isAgg hg,hui]
 ·cases h
theorem op_fieldA (hr:Rel j M w) (he:EnvRep j M w env a) {y:Operand} {z:Opd} {s:TypeId} {fs:Array Field} {f:Field} {i n:Nat} (hop:o.op = .field s y i) (hs:P.underlying s=some (.struct fs)) (hf:fs[i]?=some f)
  (hg:aggQ P f.type=some true) (hn:szOf P f.type=some n) (hz:cOpd y=some z) (h:aop C env M (.fieldA f.offset n z)=some x):∃v w',Ran P o a w v w'∧OpOk j M w x v w':=by
 simp only [aop] at h
 have h1:=opd_rep he hz
 split at h
 ·rename_i cs e
  split at h
  ·rename_i hle
   injection h with h; subst h
   rw [e] at h1
   obtain ⟨us,hv,hl,hu⟩:=h1.agg_inv
   refine ⟨.agg (us.extract f.offset (f.offset+n)),w,.inl ?_,.still hr (.agg (by simp; omega) fun p c u hc hu'=>?_)⟩
   ·simp [execOp,hop,Instr.field,run_und hs,hf,asAgg,hv,part,run_isAgg hg,run_size hn]
   ·have hp:p<n:=by have:=lt_of_some hc; simp at this; omega
    rw [List.getElem?_take_of_lt hp,List.getElem?_drop] at hc
    rw [Array.getElem?_extract] at hu'
    split at hu'
    ·exact hu _ c u hc hu'
    ·cases hu'
  ·cases h
 ·cases h
theorem op_faddr (hr:Rel j M w) (he:EnvRep j M w env a) {y:Operand} {z:Opd} {s:TypeId} {fs:Array Field} {f:Field} {i:Nat} (hop:o.op = .fieldAddr s y i) (hs:P.underlying s=some (.struct fs)) (hf:fs[i]?=some f)
  {n:Nat} (hn:szOf P f.type=some n) (hpos:0<n) (hz:cOpd y=some z) (h:aop C env M (.faddr f.offset z)=some x):∃v w',Ran P o a w v w'∧OpOk j M w x v w':=by
 simp only [aop] at h
 have h1:=opd_rep he hz
 have hrun:∀b off,a.eval y = .pointer (some ⟨b,off,none⟩)→(execOp a.eval o).run P w = .ok (.value (.pointer (some ⟨b,off+f.offset,none⟩))) w:=by
  intro b off hv
  have hne:n≠0:=by omega
  simp [execOp,hop,Instr.fieldAt,run_und hs,hf,Instr.sureAddr,hv,fieldPlace,run_size hn,hne,addr_add]
 split at h
 ·rename_i id off e
  injection h with h; subst h
  rw [e] at h1
  obtain ⟨b,h2,h3,h4,hv⟩:=h1.ptr_inv
  exact ⟨_,w,.inl (hrun _ _ hv),.still hr (.ptr h2 h3 h4)⟩
 ·rename_i cs e
  injection h with h; subst h
  rw [e] at h1
  obtain ⟨b,off,vs,hv,hc⟩:=h1.rptr_inv
  refine ⟨_,w,.inl (hrun _ _ hv),.still hr (.rptr (vs:=fun k=>vs (f.offset+k)) fun k c hk=>?_)⟩
  rw [List.getElem?_drop] at hk
  have:=hc _ c hk
  rw [Nat.add_assoc]
  exact this
 ·rename_i id v0 i0 o0 e
  injection h with h; subst h
  rw [e] at h1
  obtain ⟨⟨b,q,hv⟩,h2,h3,h4⟩:=h1.eptr_inv
  refine ⟨_,w,.inl (hrun _ _ hv),.still hr (.eptr ⟨_,_,rfl⟩ h2 h3 fun sz v' xs hM=>?_)⟩
  obtain ⟨g1,g2⟩:=h4 sz v' xs hM
  refine ⟨g1,fun he=>?_⟩
  obtain ⟨g3,b',g4,g5⟩:=g2 he
  rw [hv] at g5
  injection g5 with g5; injection g5 with g5; injection g5 with e1 e2 e3
  subst e1; subst e2
  exact ⟨g3,_,g4,by rw [Nat.add_assoc]⟩
 ·cases h
end
end Go.Abs
namespace Go.Abs
open Go Go.RowKit
variable [Globs]
theorem bs_loop (l:List UInt8):∀(n i:Nat) (acc:List UInt8),i+n=l.length→ByteArray.toList.loop (bs l) i acc=acc.reverse++l.drop i:=by
 intro n
 induction n with
 |zero =>
  intro i acc h
  have hs:(bs l).size=l.length:=by simp [bs,ByteArray.size]
  rw [ByteArray.toList.loop,if_neg (by omega)]
  simp [show i=l.length by omega]
 |succ n ih =>
  intro i acc h
  have hs:(bs l).size=l.length:=by simp [bs,ByteArray.size]
  rw [ByteArray.toList.loop,if_pos (by omega),ih (i+1) _ (by omega)]
  have hg:(bs l).get! i=l[i]'(by omega):=by
   have hi:i<l.length:=by omega
   simp [bs,ByteArray.get!,hi]
  rw [hg,List.reverse_cons,List.append_assoc,List.singleton_append,←List.drop_eq_getElem_cons]
theorem bs_toList (l:List UInt8):(bs l).toList=l:=by
 rw [ByteArray.toList,bs_loop l l.length 0 [] (by omega)]; simp
theorem bs_size (l:List UInt8):(bs l).size=l.length:=by simp [bs,ByteArray.size]
theorem strLt_eq:∀a b:List UInt8,Op.bytesLess a b=strLt a b
 | [],[]=>rfl
 | [],_::_=>rfl
 |_::_,[]=>rfl
 |a::x,b::y=>by simp [Op.bytesLess,strLt,strLt_eq x y]
theorem bs_append (a b:List UInt8):bs a++bs b=bs (a++b):=by
 apply ByteArray.ext
 simp [bs,ByteArray.data_append]
theorem bs_extract (a:List UInt8) (l h:Nat):(bs a).extract l h=bs ((a.take h).drop l):=by
 apply ByteArray.ext
 simp [bs,ByteArray.data_extract,List.drop_take]
section
variable {P:Program} {C:CallF} {o:Oper} {env:Env} {M:AMem} {j:J} {w:World} {a:Act} {x:AVal×AMem}
theorem guard_int (op:BinOp) (t:TypeId) (y z:Operand) (k k':IntKind) (m n:Int):(eqGuard op t y z (.int k m) (.int k' n)).run P w = .ok () w:=by
 unfold eqGuard; cases op<;>simp
theorem guard_str (op:BinOp) (t:TypeId) (y z:Operand) (m n:ByteArray):(eqGuard op t y z (.string m) (.string n)).run P w = .ok () w:=by
 unfold eqGuard; cases op<;>simp
theorem guard_bool (op:BinOp) (t:TypeId) (y z:Operand) (m n:Bool):(eqGuard op t y z (.bool m) (.bool n)).run P w = .ok () w:=by
 unfold eqGuard; cases op<;>simp
theorem bin_int {op:BinOp} {b:ABin} (hb:cBin op=some b) {t:TypeId} {k k':IntKind} {m n:Int} {r:AVal} (h:abin b (.int k m) (.int k' n)=some r) :
  ∃v,(binOp op t (.int k m) (.int k' n)).run P w = .ok v w∧RepP w (Saf j M w) r v:=by
 cases op<;>simp only [cBin,reduceCtorEq,Option.some.injEq] at hb<;>subst hb<;>simp only [abin] at h
 case shl =>
  split at h
  ·rename_i hn
   injection h with h; subst h
   exact ⟨_,by simp [binOp,Op.shift,Int.not_lt.2 hn],.int _ _⟩
  ·cases h
 case shr =>
  split at h
  ·rename_i hn
   injection h with h; subst h
   exact ⟨_,by simp [binOp,Op.shift,Int.not_lt.2 hn],.int _ _⟩
  ·cases h
 case quo =>
  split at h
  ·cases h
  ·rename_i hk
   split at h
   ·cases h
   ·rename_i hn
    injection h with h; subst h
    have hk:k=k':=by simpa using hk
    subst hk
    exact ⟨_,by simp [binOp,Op.intDiv,hn],.int _ _⟩
 case rem =>
  split at h
  ·cases h
  ·rename_i hk
   split at h
   ·cases h
   ·rename_i hn
    injection h with h; subst h
    have hk:k=k':=by simpa using hk
    subst hk
    exact ⟨_,by simp [binOp,Op.intDiv,hn],.int _ _⟩
 case and =>
  split at h
  ·cases h
  ·rename_i hk
   injection h with h; subst h
   have hk:k=k':=by simpa using hk
   subst hk
   exact ⟨_,by simp [binOp,Op.intBits]; rfl,.int _ _⟩
 case or =>
  split at h
  ·cases h
  ·rename_i hk
   injection h with h; subst h
   have hk:k=k':=by simpa using hk
   subst hk
   exact ⟨_,by simp [binOp,Op.intBits]; rfl,.int _ _⟩
 case xor =>
  split at h
  ·cases h
  ·rename_i hk
   injection h with h; subst h
   have hk:k=k':=by simpa using hk
   subst hk
   exact ⟨_,by simp [binOp,Op.intBits]; rfl,.int _ _⟩
 all_goals
  split at h
  ·cases h
  ·rename_i hk
   injection h with h; subst h
   have hk:k=k':=by simpa using hk
   subst hk
   first
    |exact ⟨_,by simp [binOp,Op.intArith],.int _ _⟩
    |exact ⟨_,by simp [binOp,Op.intCmp],.bool _⟩
theorem bin_str {op:BinOp} {b:ABin} (hb:cBin op=some b) {t:TypeId} {m n:List UInt8} {r:AVal} (h:abin b (.str m) (.str n)=some r) :
  ∃v,(binOp op t (.string (bs m)) (.string (bs n))).run P w = .ok v w∧RepP w (Saf j M w) r v:=by
 cases op<;>simp only [cBin,reduceCtorEq,Option.some.injEq] at hb<;>subst hb<;>simp only [abin,reduceCtorEq] at h
 case add =>
  split at h
  ·cases h
  ·rename_i hn
   injection h with h; subst h
   refine ⟨.string (bs m++bs n),?_,by rw [bs_append]; exact .str _⟩
   simp only [binOp,Op.stringOp,bs_size]
   rw [if_neg hn]
   rfl
 all_goals
  injection h with h; subst h
  exact ⟨_,by simp only [binOp,Op.stringOp,bs_toList,strLt_eq]; rfl,.bool _⟩
theorem op_bin (hr:Rel j M w) (he:EnvRep j M w env a) {op:BinOp} {b:ABin} {y y':Operand} {z z':Opd} {t t':TypeId} (hop:o.op = .binOp op t y y' t') (hb:cBin op=some b) (hz:cOpd y=some z) (hz':cOpd y'=some z')
  (h:aop C env M (.bin b z z')=some x):∃v w',Ran P o a w v w'∧OpOk j M w x v w':=by
 simp only [aop] at h
 have h1:=opd_rep he hz
 have h2:=opd_rep he hz'
 obtain ⟨r,hr',h⟩:=obind_inv h
 injection h with h; subst h
 generalize hu:z.ev env=u at *
 generalize hu':z'.ev env=u' at *
 cases u<;>cases u'<;>try (simp [abin] at hr'; done)
 ·rename_i k m k' n
  obtain ⟨v,hv,hp⟩:=bin_int (P:=P) (w:=w) (j:=j) (M:=M) (t:=t) hb hr'
  exact ⟨v,w,.inl (by simp [execOp,hop,h1.int_inv,h2.int_inv,guard_int,hv]),.still hr (.plain hp)⟩
 ·rename_i m n
  obtain ⟨v,hv,hp⟩:=bin_str (P:=P) (w:=w) (j:=j) (M:=M) (t:=t) hb hr'
  exact ⟨v,w,.inl (by simp [execOp,hop,h1.str_inv,h2.str_inv,guard_str,hv]),.still hr (.plain hp)⟩
theorem op_eqB (hr:Rel j M w) (he:EnvRep j M w env a) {neg:Bool} {y y':Operand} {z z':Opd} {t t':TypeId} (hop:o.op = .binOp (if neg then .neq else .eql) t y y' t') (ht:P.underlying t=some .bool)
  (hz:cOpd y=some z) (hz':cOpd y'=some z') (h:aop C env M (.eqB neg z z')=some x):∃v w',Ran P o a w v w'∧OpOk j M w x v w':=by
 simp only [aop] at h
 have h1:=opd_rep he hz
 have h2:=opd_rep he hz'
 split at h
 ·rename_i m n e e'
  injection h with h; subst h
  rw [e] at h1
  rw [e'] at h2
  have heq:(Op.equal t (.bool m) (.bool n)).run P w = .ok (m==n) w:=by
   unfold Op.equal
   rw [show Op.maxDepth=9999+1 from rfl,Op.equalIn]
   simp [run_und ht]
  cases neg
  ·exact ⟨.bool (m==n),w,.inl (by simp [execOp,hop,h1.bool_inv,h2.bool_inv,guard_bool,binOp,heq]),.still hr (.plain (.bool _))⟩
  ·exact ⟨.bool (!(m==n)),w,.inl (by simp [execOp,hop,h1.bool_inv,h2.bool_inv,guard_bool,binOp,heq]),.still hr (.plain (.bool _))⟩
 ·cases h
theorem bound_run {env:Env} {a:Act} (he:EnvRep j M w env a) {y:Operand} {z:Opd} (hz:cOpd y=some z) {n:Nat} {i:Int} (h:boundOf env n (some z)=some i) {m:Nat} (h0:0≤i) (h1:i≤m) (code:BoundsCode) :
  (Instr.sliceBound (a.eval y) m code).run P w = .ok i.toNat w:=by
 unfold boundOf at h
 have h2:=opd_rep he hz
 simp only at h
 split at h
 ·rename_i k i' e
  injection h with h; subst h
  rw [e] at h2
  simp [Instr.sliceBound,h2.int_inv,asIntOf,h0,h1]
 ·cases h
theorem cOpt_inv {y:Option Operand} {z:Option Opd} (h:cOpt y=some z):(y=none∧z=none)∨∃y' z',y=some y'∧z=some z'∧cOpd y'=some z':=by
 cases y with
 |none=>simp [cOpt] at h; exact .inl ⟨rfl,h.symm⟩
 |some y =>
  simp only [cOpt] at h
  obtain ⟨z',h1,h2⟩:=bind_inv h
  injection h2 with h2
  exact .inr ⟨y,z',rfl,h2.symm,h1⟩
theorem bounds_run {env:Env} {a:Act} (he:EnvRep j M w env a) {lo hi:Option Operand} {lo' hi':Option Opd} (hlo:cOpt lo=some lo') (hhi:cOpt hi=some hi') {len cap:Nat} {l h:Int}
  (h1:boundOf env len hi'=some h) (h2:boundOf env 0 lo'=some l) (hh0:0≤h) (hh:h≤len) (hl0:0≤l) (hl:l≤h) (hc:len≤cap) (isS:Bool) :
  (Instr.sliceBounds isS len cap (lo.map a.eval) (hi.map a.eval) none).run P w = .ok (l.toNat,h.toNat,cap) w:=by
 unfold Instr.sliceBounds
 have hhn:((h.toNat:Nat):Int)=h:=Int.toNat_of_nonneg hh0
 rcases cOpt_inv hhi with ⟨rfl,rfl⟩|⟨y,z,rfl,rfl,hz⟩<;>rcases cOpt_inv hlo with ⟨rfl,rfl⟩|⟨y',z',rfl,rfl,hz'⟩
 ·simp [boundOf] at h1 h2; subst h1; subst h2; simp
 ·simp [boundOf] at h1; subst h1
  have:=bound_run (P:=P) he hz' h2 hl0 (m:=len) (by omega) .sliceB
  simp [this]
 ·simp [boundOf] at h2; subst h2
  have:=bound_run (P:=P) he hz h1 hh0 (m:=cap) (by omega) (if isS then .sliceAcap else .sliceAlen)
  simp [this]
 ·have t1:=bound_run (P:=P) he hz h1 hh0 (m:=cap) (by omega) (if isS then .sliceAcap else .sliceAlen)
  have t2:=bound_run (P:=P) he hz' h2 hl0 (m:=h.toNat) (by omega) .sliceB
  simp [t1,t2]
theorem op_sliceS (hr:Rel j M w) (he:EnvRep j M w env a) {y:Operand} {lo hi:Option Operand} {z:Opd} {lo' hi':Option Opd} {t:TypeId} (hop:o.op = .slice t y lo hi none) (ht:P.underlying t=some .string)
  (hz:cOpd y=some z) (hlo:cOpt lo=some lo') (hhi:cOpt hi=some hi') (h:aop C env M (.sliceS z lo' hi')=some x):∃v w',Ran P o a w v w'∧OpOk j M w x v w':=by
 simp only [aop] at h
 have h1:=opd_rep he hz
 split at h
 ·rename_i s e
  obtain ⟨hh,h2,h⟩:=obind_inv h
  obtain ⟨l,h3,h⟩:=obind_inv h
  obtain ⟨⟨c1,c2,c3,c4⟩,h⟩:=owhen_inv h
  injection h with h; subst h
  rw [e] at h1
  have hb:=bounds_run (P:=P) he hlo hhi (cap:=s.length) h2 h3 c1 c2 c3 c4 (Nat.le_refl _) false
  refine ⟨.string (bs ((s.take hh.toNat).drop l.toNat)),w,.inl ?_,.still hr (.plain (.str _))⟩
  simp [execOp,hop,Instr.sliceAt,run_und ht,Instr.slice,h1.str_inv,bs_size,hb,bs_extract]
 ·cases h
theorem RepP.part {saf:Nat→Nat→Prop} {xs:List AVal} {A:Option Addr} {cap m l h n:Nat} (hx:RepP w saf (.slice .sh xs) (.slice A xs.length cap)) (hw:wid xs n) (hl:l≤h) (hh:h≤xs.length) (hm:h≤m) :
  RepP w saf (.slice .sh ((xs.take h).drop l)) (.slice (if m=l then A else A.map (·.add (l*n))) (h-l) (m-l)):=by
 obtain ⟨A',cap',b,off,sz,vs,hv,hc,ha,hz,hs,hrp⟩:=hx.slice_inv
 injection hv with e1 e2 e3
 subst e1; subst e3
 have hlen:((xs.take h).drop l).length=h-l:=by simp; omega
 have el:∀i x,((xs.take h).drop l)[i]?=some x→xs[l+i]?=some x∧i<h-l:=by
  intro i x hi
  have hlt:=lt_of_some hi
  rw [hlen] at hlt
  rw [List.getElem?_drop,List.getElem?_take_of_lt (by omega)] at hi
  exact ⟨hi,hlt⟩
 refine .slice _ _ _ _ b (off+l*sz) sz (fun p=>vs (l*sz+p)) hlen.symm (by omega) (fun hne=>?_) (fun x hx=>hz x (List.mem_of_mem_take (List.mem_of_mem_drop hx))) (fun i x k c hi hk=>?_) (fun i x k c hi hk=>?_)
 ·have:0<h-l:=by
   rw [←hlen]; exact List.length_pos_iff.2 hne
  rw [if_neg (by omega)]
  have hne':xs≠[]:=by rintro rfl; simp at hne
  rw [ha hne']
  have:n=sz:=by
   obtain ⟨x,r,rfl⟩:=List.exists_cons_of_ne_nil hne'
   rw [←hw x (by simp),hz x (by simp)]
  simp [addr_add,this]
 ·obtain ⟨h1,_⟩:=el i x hi
  have:=hs (l+i) x k c h1 hk
  rw [show (l+i)*sz+k=l*sz+(i*sz+k) by rw [Nat.add_mul]; omega] at this
  rw [show off+l*sz+(i*sz+k)=off+(l*sz+(i*sz+k)) by omega]
  exact this
 ·obtain ⟨h1,_⟩:=el i x hi
  have:=hrp (l+i) x k c h1 hk
  rw [show (l+i)*sz+k=l*sz+(i*sz+k) by rw [Nat.add_mul]; omega] at this
  exact this
theorem op_sliceV (hr:Rel j M w) (he:EnvRep j M w env a) {y:Operand} {lo hi mx:Option Operand} {z:Opd} {lo' hi' mx':Option Opd} {t e:TypeId} {n:Nat} (hop:o.op = .slice t y lo hi mx) (ht:P.underlying t=some (.slice e))
  (hn:szOf P e=some n) (hz:cOpd y=some z) (hlo:cOpt lo=some lo') (hhi:cOpt hi=some hi') (hmx:cOpt mx=some mx') (hmh:mx'.isNone=true∨hi'.isSome=true)
  (h:aop C env M (.sliceV n z lo' hi' mx')=some x):∃v w',Ran P o a w v w'∧OpOk j M w x v w':=by
 simp only [aop] at h
 have h1:=opd_rep he hz
 split at h
 ·rename_i tk xs ez
  obtain ⟨hw,h⟩:=owhen_inv h
  obtain ⟨hh,h2,h⟩:=obind_inv h
  obtain ⟨l,h3,h⟩:=obind_inv h
  rw [ez] at h1
  have hp:=h1.slice_inv
  obtain ⟨A,cap,b,off,sz,vs,hv,hc,_⟩:=hp.slice_inv
  rw [hv] at hp
  rcases cOpt_inv hmx with ⟨rfl,rfl⟩|⟨my,mz,rfl,rfl,hmz⟩
  ·simp only at h
   obtain ⟨⟨c1,c2,c3,c4⟩,h⟩:=owhen_inv h
   injection h with h; subst h
   have hb:=bounds_run (P:=P) he hlo hhi (cap:=cap) h2 h3 c1 c2 c3 c4 hc true
   refine ⟨_,w,.inl ?_,.still hr (.plain (hp.part (m:=cap) (l:=l.toNat) (h:=hh.toNat) hw (by omega) (by omega) (by omega)))⟩
   simp [execOp,hop,Instr.sliceAt,run_und ht,Instr.slice,hv,hb,run_size hn]
  ·simp only at h
   split at h
   ·rename_i mk m em
    obtain ⟨⟨c0,c0',c1,c2,c3,c4⟩,h⟩:=owhen_inv h
    have hm:=opd_rep he hmz
    rw [em] at hm
    have hmr:(Instr.sliceBound (a.eval my) cap .slice3Acap).run P w = .ok m.toNat w:=by
     simp [Instr.sliceBound,hm.int_inv,asIntOf,c0,show m≤cap by omega]
    have hbs:(Instr.sliceBounds true xs.length cap (lo.map a.eval) (hi.map a.eval) (some (a.eval my))).run P w = .ok (l.toNat,hh.toNat,m.toNat) w:=by
     unfold Instr.sliceBounds
     rcases cOpt_inv hhi with ⟨rfl,rfl⟩|⟨hy,hz',rfl,rfl,hhz⟩
     ·simp at hmh
     ·have t1:=bound_run (P:=P) he hhz h2 c1 (m:=m.toNat) (by omega) .slice3B
      rcases cOpt_inv hlo with ⟨rfl,rfl⟩|⟨y',z',rfl,rfl,hz'⟩
      ·simp [boundOf] at h3; subst h3
       simp [hmr,t1]
      ·have t2:=bound_run (P:=P) he hz' h3 c3 (m:=hh.toNat) (by omega) .slice3C
       simp [hmr,t1,t2]
    have hrun:(execOp a.eval o).run P w = .ok (.value (.slice (if m.toNat=l.toNat then A else A.map (·.add (l.toNat*n))) (hh.toNat-l.toNat) (m.toNat-l.toNat))) w:=by
     simp [execOp,hop,Instr.sliceAt,run_und ht,Instr.slice,hv,hbs,run_size hn]
    rcases oif_inv h with ⟨hm0,h⟩|⟨hm0,h⟩<;>(injection h with h; subst h)
    ·have hm0:m=0:=by simpa using hm0
     subst hm0
     have e1:hh=0:=by omega
     have e2:l=0:=by omega
     subst e1; subst e2
     exact ⟨_,w,.inl hrun,.still hr (.c0 _)⟩
    ·exact ⟨_,w,.inl hrun,.still hr (.plain (hp.part (m:=m.toNat) hw (by omega) (by omega) (by omega)))⟩
   ·cases h
 ·rename_i id v0 sz' al ah ez
  obtain ⟨hsz,h⟩:=owhen_inv h
  subst hsz
  obtain ⟨hh,h2,h⟩:=obind_inv h
  obtain ⟨l,h3,h⟩:=obind_inv h
  rw [ez] at h1
  obtain ⟨⟨b,off,cap,hv,hc⟩,g1,g2,g3⟩:=h1.aref_inv
  have key:∀m:Nat,m≤cap→0≤l→l<hh→hh≤m→hh≤(ah-al:Nat)→Rep j M w (.aref id v0 sz' (al+l.toNat) (al+hh.toNat)) (.slice (some ⟨b,off+l.toNat*sz',none⟩) (hh.toNat-l.toNat) (m-l.toNat)):=by
   intro m hmc hl0 hlh hhm hha
   have e0:al+hh.toNat-(al+l.toNat)=hh.toNat-l.toNat:=by clear g3 g2 h1 hv; omega
   have e6:hh.toNat-l.toNat≤m-l.toNat:=by clear g3 g2 h1 hv; omega
   have e7:al+l.toNat+(m-l.toNat)≤al+cap:=by clear g3 g2 h1 hv; omega
   have e8:al+l.toNat≤al+hh.toNat:=by clear g3 g2 h1 hv; omega
   have e9:al+hh.toNat≤ah:=by clear g3 g2 h1 hv; omega
   refine .aref ⟨b,off+l.toNat*sz',m-l.toNat,by rw [e0],by rw [e0]; exact e6⟩ g1 g2 fun sz v' xs hM=>?_
   obtain ⟨k1,k2⟩:=g3 sz v' xs hM
   refine ⟨k1,fun hev=>?_⟩
   obtain ⟨l0,l1,l2,b',cap',vs,t',l3,l4,l5,l6,l7⟩:=k2 hev
   rw [hv] at l4
   injection l4 with l4 l4' l4''
   injection l4 with l4; injection l4 with e1 e2 e3
   subst e1; subst e2; subst l4''
   exact ⟨l0,e8,Nat.le_trans e9 l2,b,m-l.toNat,vs,t',l3,by rw [e0,Nat.add_mul],by rw [e0]; exact e6,l6,Nat.le_trans (Nat.mul_le_mul_right _ e7) l7⟩
  rcases cOpt_inv hmx with ⟨rfl,rfl⟩|⟨my,mz,rfl,rfl,hmz⟩
  ·simp only at h
   obtain ⟨⟨c1,c2,c3,c4⟩,h⟩:=owhen_inv h
   have hb:=bounds_run (P:=P) he hlo hhi (cap:=cap) h2 h3 c1 c2 c3 c4 hc true
   have hrun:(execOp a.eval o).run P w = .ok (.value (.slice (if cap=l.toNat then some ⟨b,off,none⟩ else some ⟨b,off+l.toNat*sz',none⟩) (hh.toNat-l.toNat) (cap-l.toNat))) w:=by
    simp [execOp,hop,Instr.sliceAt,run_und ht,Instr.slice,hv,hb,run_size hn]
    split<;>simp [addr_add]
   rcases oif_inv h with ⟨hm0,h⟩|⟨hm0,h⟩<;>(injection h with h; subst h)
   ·have:l=hh:=by simpa using hm0
    subst this
    refine ⟨_,w,.inl hrun,.still hr (.plain ?_)⟩
    rw [Nat.sub_self]
    exact RepP.nil _ _ _
   ·have:l≠hh:=by simpa using hm0
    rw [if_neg (by omega)] at hrun
    exact ⟨_,w,.inl hrun,.still hr (key cap (Nat.le_refl _) c3 (by omega) (by omega) c2)⟩
  ·simp only at h
   split at h
   ·rename_i mk m em
    obtain ⟨⟨c0,c0',c1,c2,c3,c4⟩,h⟩:=owhen_inv h
    have hm:=opd_rep he hmz
    rw [em] at hm
    have hmr:(Instr.sliceBound (a.eval my) cap .slice3Acap).run P w = .ok m.toNat w:=by
     simp [Instr.sliceBound,hm.int_inv,asIntOf,c0,show m≤cap by omega]
    have hbs:(Instr.sliceBounds true (ah-al) cap (lo.map a.eval) (hi.map a.eval) (some (a.eval my))).run P w = .ok (l.toNat,hh.toNat,m.toNat) w:=by
     unfold Instr.sliceBounds
     rcases cOpt_inv hhi with ⟨rfl,rfl⟩|⟨hy,hz',rfl,rfl,hhz⟩
     ·simp at hmh
     ·have t1:=bound_run (P:=P) he hhz h2 c1 (m:=m.toNat) (by omega) .slice3B
      rcases cOpt_inv hlo with ⟨rfl,rfl⟩|⟨y',z',rfl,rfl,hz'⟩
      ·simp [boundOf] at h3; subst h3
       simp [hmr,t1]
      ·have t2:=bound_run (P:=P) he hz' h3 c3 (m:=hh.toNat) (by omega) .slice3C
       simp [hmr,t1,t2]
    have hrun:(execOp a.eval o).run P w = .ok (.value (.slice (if m.toNat=l.toNat then some ⟨b,off,none⟩ else some ⟨b,off+l.toNat*sz',none⟩) (hh.toNat-l.toNat) (m.toNat-l.toNat))) w:=by
     simp [execOp,hop,Instr.sliceAt,run_und ht,Instr.slice,hv,hbs,run_size hn]
     split<;>simp [addr_add]
    rcases oif_inv h with ⟨hm0,h⟩|⟨hm0,h⟩
    ·injection h with h; subst h
     have hm0:m=0:=by simpa using hm0
     subst hm0
     have e1:hh=0:=by omega
     have e2:l=0:=by omega
     subst e1; subst e2
     exact ⟨_,w,.inl hrun,.still hr (.c0 _)⟩
    ·rcases oif_inv h with ⟨hm1,h⟩|⟨hm1,h⟩<;>(injection h with h; subst h)
     ·have:l=hh:=by simpa using hm1
      subst this
      refine ⟨_,w,.inl hrun,.still hr (.plain ?_)⟩
      rw [Nat.sub_self]
      exact RepP.nil _ _ _
     ·have:l≠hh:=by simpa using hm1
      rw [if_neg (by omega)] at hrun
      exact ⟨_,w,.inl hrun,.still hr (key m.toNat (by omega) c3 (by omega) (by omega) (by omega))⟩
   ·cases h
 ·cases h
theorem op_iaddr (hr:Rel j M w) (he:EnvRep j M w env a) {y i:Operand} {z z':Opd} {t e:TypeId} {n:Nat} (hop:o.op = .indexAddr t y i) (ht:P.underlying t=some (.slice e)) (hn:szOf P e=some n)
  (hz:cOpd y=some z) (hz':cOpd i=some z') (h:aop C env M (.iaddr n z z')=some x):∃v w',Ran P o a w v w'∧OpOk j M w x v w':=by
 simp only [aop] at h
 have h1:=opd_rep he hz
 have h2:=opd_rep he hz'
 split at h
 ·rename_i tk xs k m ez ez'
  obtain ⟨h0,h⟩:=owhen_inv h
  obtain ⟨el,hel,h⟩:=obind_inv h
  split at h
  ·rename_i hwd
   injection h with h; subst h
   rw [ez] at h1
   rw [ez'] at h2
   obtain ⟨A,cap,b,off,sz,vs,hv,hc,ha,hsz,hs,hrp⟩:=h1.slice_inv.slice_inv
   have hlt:=lt_of_some hel
   have hne:xs≠[]:=by rintro rfl; simp at hlt
   have hA:=ha hne
   have hsz':sz=n:=by rw [←hwd]; exact (hsz el (List.mem_of_getElem? hel)).symm
   subst hsz'
   subst hA
   refine ⟨.pointer (some ⟨b,off+m.toNat*sz,none⟩),w,.inl ?_,.still hr (.rptr (vs:=fun q=>vs (m.toNat*sz+q)) fun q c hq=>?_)⟩
   ·have hm:m<xs.length:=by omega
    simp [execOp,hop,Instr.indexAt,run_und ht,hv,h2.int_inv,asIntOf,h0,hm,run_size hn,addr_add]
   ·have h3:=hs _ el q c hel hq
    have h4:=hrp _ el q c hel hq
    rw [Nat.add_assoc]
    exact ⟨h3.1,h3.2,h4⟩
  ·cases h
 ·rename_i id v0 sz' lo hi k m ez ez'
  obtain ⟨⟨h0,hm,hsz⟩,h⟩:=owhen_inv h
  injection h with h; subst h
  subst hsz
  rw [ez] at h1
  rw [ez'] at h2
  obtain ⟨⟨b,off,cap,hv,hcap⟩,g1,g2,g3⟩:=h1.aref_inv
  refine ⟨.pointer (some ⟨b,off+m.toNat*sz',none⟩),w,.inl ?_,.still hr (.eptr ⟨_,_,rfl⟩ g1 g2 fun sz v' xs hM=>?_)⟩
  ·simp [execOp,hop,Instr.indexAt,run_und ht,hv,h2.int_inv,asIntOf,h0,hm,run_size hn,addr_add]
  ·obtain ⟨k1,k2⟩:=g3 sz v' xs hM
   refine ⟨k1,fun he=>?_⟩
   obtain ⟨rfl,l1,l2,b',cap',vs,t',l3,l4,l5,l6,l7⟩:=k2 he
   rw [hv] at l4
   injection l4 with l4; injection l4 with l4; injection l4 with e1 e2 e3
   subst e1; subst e2
   have hlt:lo+m.toNat<xs.length:=by clear k2 g3 l7 hcap l5; omega
   exact ⟨hlt,_,l3,by rw [Nat.add_mul]; simp⟩
 ·cases h
theorem loadFrom_run (b off:Nat) (u:Nat→Value):∀(n i:Nat) (acc:Array Value),(∀k,k<n→w.cell? ⟨b,off+(i+k),none⟩=some (u (i+k))) →
  (loadCellsFrom ⟨b,off,none⟩ i n acc).run P w = .ok (acc++((List.range n).map fun k=>u (i+k)).toArray) w:=by
 intro n
 induction n with
 |zero=>intro i acc _; simp [loadCellsFrom]
 |succ n ih =>
  intro i acc h
  have h0:=h 0 (by omega)
  simp only [Nat.add_zero] at h0
  have hi:=ih (i+1) (acc.push (u i)) fun k hk=>by
   have:=h (k+1) (by omega)
   rw [show i+(k+1)=i+1+k by omega] at this
   exact this
  simp only [loadCellsFrom,Sem.run_bind,addr_add,run_load,h0,Result.andThen_ok,hi]
  congr 1
  apply Array.ext'
  simp [List.range_succ_eq_map,Function.comp_def,Nat.add_comm,Nat.add_left_comm]
theorem load_run (b off n:Nat) (u:Nat→Value) (h:∀k,k<n→w.cell? ⟨b,off+k,none⟩=some (u k)) :
  (loadCells ⟨b,off,none⟩ n).run P w = .ok (((List.range n).map u).toArray) w:=by
 have:=loadFrom_run (P:=P) (w:=w) b off u n 0 #[] (by simpa using h)
 simpa [loadCells] using this
theorem box_cell {id b:Nat} {cs:List AVal} (hr:Rel j M w) (hM:M[id]?=some (.cells cs)) (hj:j id=some b):∃vs t,w.heap[b]?=some (.cells vs t (0,0))∧cs.length=vs.size ∧
  (∀(q:Nat) (c:AVal) (v:Value),cs[q]?=some c→vs[q]?=some v→Rep j M w c v)∧∀q,w.cell? ⟨b,q,none⟩=vs[q]?:=by
 obtain ⟨b',vs,t,h1,h2,h3,h4⟩:=hr.box id cs hM
 rw [hj] at h1; injection h1 with h1; subst h1
 exact ⟨vs,t,h2,h3,h4,fun q=>by simp [World.cell?,h2]⟩
theorem arr_cell (hr:Rel j M w) {id ver i off sz:Nat} {xs:List AVal} {v:Value} {el:AVal} (hM:M[id]?=some (.arr sz ver xs)) (h:Rep j M w (.eptr id ver i off) v) (hel:xs[i]?=some el) :
  ∃b,v = .pointer (some ⟨b,i*sz+off,none⟩)∧∀(k:Nat) (c:AVal),el.cells[off+k]?=some c→∃u,w.cell? ⟨b,i*sz+off+k,none⟩=some u∧RepP w (Saf j M w) c u:=by
 obtain ⟨_,_,_,g⟩:=h.eptr_inv
 obtain ⟨g1,b,g2,g3⟩:=(g sz ver xs hM).2 rfl
 obtain ⟨b',vs,t,k1,k2,k3,k4,k5⟩:=hr.arr id sz ver xs hM
 rw [g2] at k1; injection k1 with k1; subst k1
 refine ⟨b,g3,fun k c hc=>?_⟩
 obtain ⟨u,l1,l2⟩:=k5 i el (off+k) c hel hc
 exact ⟨u,by simp [World.cell?,k2,Nat.add_assoc,l1],l2⟩
theorem op_load1 (hr:Rel j M w) (he:EnvRep j M w env a) {y:Operand} {z:Opd} {t:TypeId} (hop:o.op = .load t y) (hg:aggQ P t=some false) (hz:cOpd y=some z) (h:aop C env M (.load1 z)=some x) :
  ∃v w',Ran P o a w v w'∧OpOk j M w x v w':=by
 simp only [aop] at h
 have h1:=opd_rep he hz
 split at h
 ·rename_i id off e
  rw [e] at h1
  obtain ⟨b,_,_,hj,hv⟩:=h1.ptr_inv
  rw [nth_eq] at h
  split at h
  ·rename_i cs hM
   obtain ⟨c,hc,h⟩:=obind_inv h
   injection h with h; subst h
   rw [nth_eq] at hc
   obtain ⟨vs,t0,hw,hl,hcs,hcell⟩:=box_cell hr hM hj
   have hlt:=lt_of_some hc
   have hu:vs[off]?=some (vs[off]'(by omega)):=Array.getElem?_eq_getElem (by omega)
   refine ⟨_,w,.inl ?_,.still hr (hcs _ c _ hc hu)⟩
   simp [execOp,hop,Instr.loadAt,Instr.sureAddr,hv,loadVar,run_isAgg hg,hcell,hu]
  ·cases h
 ·rename_i cs e
  rw [e] at h1
  obtain ⟨b,off,vs,hv,hc⟩:=h1.rptr_inv
  obtain ⟨c,hc0,h⟩:=obind_inv h
  injection h with h; subst h
  rw [nth_eq] at hc0
  obtain ⟨h2,_,h3⟩:=hc 0 c hc0
  simp only [Nat.add_zero] at h2
  refine ⟨_,w,.inl ?_,.still hr (.plain h3)⟩
  simp [execOp,hop,Instr.loadAt,Instr.sureAddr,hv,loadVar,run_isAgg hg,h2]
 ·rename_i id ver i off e
  rw [e] at h1
  rw [nth_eq] at h
  split at h
  ·rename_i sz v0 xs hM
   split at h
   ·rename_i hv0
    subst hv0
    obtain ⟨el,hel,h⟩:=obind_inv h
    obtain ⟨c,hc,h⟩:=obind_inv h
    injection h with h; subst h
    rw [nth_eq] at hc
    obtain ⟨b,hv,hcell⟩:=arr_cell hr hM h1 hel
    obtain ⟨u,l1,l2⟩:=hcell 0 c (by simpa using hc)
    simp only [Nat.add_zero] at l1
    refine ⟨u,w,.inl ?_,.still hr (.plain l2)⟩
    simp [execOp,hop,Instr.loadAt,Instr.sureAddr,hv,loadVar,run_isAgg hg,l1]
   ·cases h
  ·cases h
 ·cases h
theorem op_loadA (hr:Rel j M w) (he:EnvRep j M w env a) {y:Operand} {z:Opd} {t:TypeId} {n:Nat} (hop:o.op = .load t y) (hg:aggQ P t=some true) (hn:szOf P t=some n) (hz:cOpd y=some z)
  (h:aop C env M (.loadA n z)=some x):∃v w',Ran P o a w v w'∧OpOk j M w x v w':=by
 simp only [aop] at h
 have h1:=opd_rep he hz
 split at h
 ·rename_i id off e
  rw [e] at h1
  obtain ⟨b,_,_,hj,hv⟩:=h1.ptr_inv
  rw [nth_eq] at h
  split at h
  ·rename_i cs hM
   split at h
   ·rename_i hle
    injection h with h; subst h
    obtain ⟨vs,t0,hw,hl,hcs,hcell⟩:=box_cell hr hM hj
    have hrun:=load_run (P:=P) (w:=w) b off n (fun k=>(vs[off+k]?).getD undef) fun k hk=>by
     rw [hcell,Array.getElem?_eq_getElem (by omega)]; simp
    refine ⟨_,w,.inl (by simp [execOp,hop,Instr.loadAt,Instr.sureAddr,hv,loadVar,run_isAgg hg,run_size hn,hrun]; rfl),.still hr (.agg (by simp; omega) fun p c u hc hu=>?_)⟩
    have hp:p<n:=by have:=lt_of_some hc; simp at this; omega
    rw [List.getElem?_take_of_lt hp,List.getElem?_drop] at hc
    have hu':u=(vs[off+p]?).getD undef:=by simp [hp] at hu; exact hu.symm
    have hs:vs[off+p]?=some (vs[off+p]'(by omega)):=Array.getElem?_eq_getElem (by omega)
    rw [hs] at hu'
    subst hu'
    exact hcs _ c _ hc hs
   ·cases h
  ·cases h
 ·rename_i cs e
  split at h
  ·rename_i hle
   injection h with h; subst h
   rw [e] at h1
   obtain ⟨b,off,vs,hv,hc⟩:=h1.rptr_inv
   have hrun:=load_run (P:=P) (w:=w) b off n vs fun k hk=>(hc k _ (List.getElem?_eq_getElem (by omega))).1
   refine ⟨_,w,.inl (by simp [execOp,hop,Instr.loadAt,Instr.sureAddr,hv,loadVar,run_isAgg hg,run_size hn,hrun]; rfl),.still hr (.agg (by simp; omega) fun p c u hc' hu=>?_)⟩
   have hp:p<n:=by have:=lt_of_some hc'; simp at this; omega
   rw [List.getElem?_take_of_lt hp] at hc'
   have hu':u=vs p:=by simp [hp] at hu; exact hu.symm
   subst hu'
   exact .plain (hc p c hc').2.2
  ·cases h
 ·rename_i id ver i off e
  rw [e] at h1
  rw [nth_eq] at h
  split at h
  ·rename_i sz v0 xs hM
   split at h
   ·rename_i hv0
    subst hv0
    obtain ⟨el,hel,h⟩:=obind_inv h
    split at h
    ·rename_i hle
     injection h with h; subst h
     obtain ⟨b,hv,hcell⟩:=arr_cell hr hM h1 hel
     have hrun:=load_run (P:=P) (w:=w) b (i*sz+off) n (fun k=>(w.cell? ⟨b,i*sz+off+k,none⟩).getD undef) fun k hk=>by
      obtain ⟨u,l1,_⟩:=hcell k _ (List.getElem?_eq_getElem (by omega))
      rw [l1]; rfl
     refine ⟨_,w,.inl (by simp [execOp,hop,Instr.loadAt,Instr.sureAddr,hv,loadVar,run_isAgg hg,run_size hn,hrun]; rfl),.still hr (.agg (by simp; omega) fun p c u hc' hu=>?_)⟩
     have hp:p<n:=by have:=lt_of_some hc'; simp at this; omega
     rw [List.getElem?_take_of_lt hp,List.getElem?_drop] at hc'
     obtain ⟨u',l1,l2⟩:=hcell p c hc'
     have hu':u=(w.cell? ⟨b,i*sz+off+p,none⟩).getD undef:=by simp [hp] at hu; exact hu.symm
     rw [l1] at hu'
     subst hu'
     exact .plain l2
    ·cases h
   ·cases h
  ·cases h
 ·cases h
end
end Go.Abs
namespace Go.Abs
open Go Go.RowKit
variable [Globs]
section
variable {P:Program} {C:CallF} {o:Oper} {env:Env} {M:AMem} {j:J} {w:World} {a:Act} {x:AVal×AMem}
theorem cells_rep {y:AVal} {v:Value} {cs:List AVal} (h:Rep j M w y v) (hc:y.cells?=some cs):RC j M w cs v.cells:=by
 cases y<;>simp only [AVal.cells?,Option.some.injEq,reduceCtorEq] at hc
 case agg cs' =>
  subst hc
  obtain ⟨vs,rfl,h1,h2⟩:=h.agg_inv
  exact ⟨h1,h2⟩
 case raw u =>
  cases h with
  |plain h =>
   cases h with
   |raw _ h1 =>
    cases v<;>simp at hc<;>subst hc <;>
     exact ⟨rfl,fun i c v hc hv=>by
      cases i with
      |zero=>simp [Value.cells] at hc hv; subst hc; subst hv; exact .plain (.raw _ h1)
      |succ i=>simp at hc⟩
 all_goals
  subst hc
  have hv:v.cells = #[v]:=by
   first
    |(have:=h.bool_inv; subst this; rfl)
    |(have:=h.int_inv; subst this; rfl)
    |(have:=h.str_inv; subst this; rfl)
    |(obtain ⟨A,cap,b,off,sz,vs,e,_⟩:=h.slice_inv.slice_inv; subst e; rfl)
    |(obtain ⟨b,_,_,_,e⟩:=h.ptr_inv; subst e; rfl)
    |(obtain ⟨b,off,vs,e,_⟩:=h.rptr_inv; subst e; rfl)
    |(obtain ⟨vs,e,_⟩:=h.func_inv; subst e; rfl)
    |(obtain ⟨b,_,_,e⟩:=h.mref_inv; subst e; rfl)
    |(obtain ⟨b,_,_,e⟩:=h.iref_inv; subst e; rfl)
    |(obtain ⟨b,es,cl,e,_⟩:=h.fmap_inv; subst e; rfl)
    |(obtain ⟨⟨_,_,_,e,_⟩,_⟩:=h.aref_inv; subst e; rfl)
    |(obtain ⟨⟨_,_,e⟩,_⟩:=h.eptr_inv; subst e; rfl)
    |(obtain ⟨_,e,_⟩:=h.mfn_inv; subst e; rfl)
    |(obtain ⟨_,_,_,_,e|e⟩:=h.bself_inv<;>(subst e; rfl))
    |(obtain ⟨_,_,_,h3,_⟩:=h.obuf_inv; cases h3; rfl)
  rw [hv]
  exact ⟨rfl,fun i c u hc hu=>by
   cases i with
   |zero=>simp at hc hu; subst hc; subst hu; exact h
   |succ i=>simp at hc⟩
theorem cell_one {c:AVal} {v:Value} (h:Rep j M w c v) (hc:c.isCell=true):v.oneCell'=true:=by
 cases c<;>simp only [AVal.isCell,reduceCtorEq,Bool.false_eq_true] at hc
 case bool=>have:=h.bool_inv; subst this; rfl
 case int=>have:=h.int_inv; subst this; rfl
 case str=>have:=h.str_inv; subst this; rfl
 case slice=>obtain ⟨A,cap,b,off,sz,vs,e,_⟩:=h.slice_inv.slice_inv; subst e; rfl
 case ptr=>obtain ⟨b,_,_,_,e⟩:=h.ptr_inv; subst e; rfl
 case rptr=>obtain ⟨b,off,vs,e,_⟩:=h.rptr_inv; subst e; rfl
 case func=>obtain ⟨vs,e,_⟩:=h.func_inv; subst e; rfl
 case mref=>obtain ⟨b,_,_,e⟩:=h.mref_inv; subst e; rfl
 case iref=>obtain ⟨b,_,_,e⟩:=h.iref_inv; subst e; rfl
 case fmap=>obtain ⟨b,es,cl,e,_⟩:=h.fmap_inv; subst e; rfl
 case aref=>obtain ⟨⟨_,_,_,e,_⟩,_⟩:=h.aref_inv; subst e; rfl
 case eptr=>obtain ⟨⟨_,_,e⟩,_⟩:=h.eptr_inv; subst e; rfl
 case mfn=>obtain ⟨_,e,_⟩:=h.mfn_inv; subst e; rfl
 case bself=>obtain ⟨_,_,_,_,e|e⟩:=h.bself_inv<;>(subst e; rfl)
 case obuf=>obtain ⟨_,_,_,h3,_⟩:=h.obuf_inv; cases h3; rfl
 case raw u =>
  cases h with
  |plain h=>cases h with|raw _ h1=>exact h1
theorem new_box (hr:Rel j M w) {cs:List AVal} {vs:Array Value} (hc:RC j M w cs vs) (t:TypeId) :
  OpOk j M w (.ptr M.length 0,M++[.cells cs]) (.pointer (some ⟨w.heap.size,0,none⟩)) { w with heap:=w.heap.push (.cells vs t (0,0)) }:=by
 have q:Quiet w { w with heap:=w.heap.push (.cells vs t (0,0)) }:=⟨by simp,rfl,rfl,rfl⟩
 have hb:∀b,b<w.heap.size→({ w with heap:=w.heap.push (.cells vs t (0,0)) }:World).heap[b]?=w.heap[b]?:=fun b hb=>by
  show (w.heap.push _)[b]?=_
  rw [Array.getElem?_push,if_neg (by omega)]
 have hn:({ w with heap:=w.heap.push (.cells vs t (0,0)) }:World).heap[w.heap.size]?=some (.cells vs t (0,0)):=by simp
 refine ⟨upd j M.length (some w.heap.size),hr.push (fun b h=>?_) q hb (fun _=>?_) (fun sz n b h=>by cases h),Ext.push (fun b h=>?_) q hb,.ptr (by simp) ⟨cs,by simp⟩ (by simp [upd])⟩
 ·injection h with h; subst h; simp
 ·exact ⟨_,rfl,fun j' M' hx=>⟨vs,t,hn,hc.1,fun i c v h1 h2=>(hc.2 i c v h1 h2).mono hx⟩⟩
 ·injection h with h; omega
theorem op_box (hr:Rel j M w) (he:EnvRep j M w env a) {y:Operand} {z:Opd} {t:TypeId} (hop:o.op = .box t y) (hz:cOpd y=some z) (h:aop C env M (.box z)=some x) :
  ∃v w',Ran P o a w v w'∧OpOk j M w x v w':=by
 simp only [aop] at h
 obtain ⟨cs,hc,h⟩:=obind_inv h
 injection h with h; subst h
 exact ⟨_,_,.inl (by simp [execOp,hop,Instr.box,newVar,newRow]),new_box hr (cells_rep (opd_rep he hz) hc) t⟩
theorem op_box0 (hr:Rel j M w) {t:TypeId} {i:TypeInfo} {zv:Value} {l:List AVal} (hop:o.op = .alloc t) (hi:P.info? t=some i) (hzv:i.zero=some zv) (hl:absL zv.cells.toList=some l)
  (h:aop C env M (.box0 l)=some x):∃v w',Ran P o a w v w'∧OpOk j M w x v w':=by
 simp only [aop] at h
 injection h with h; subst h
 obtain ⟨h1,h2⟩:=absL_rep (j:=j) (M:=M) (w:=w) hl
 refine ⟨_,_,.inl (by simp [execOp,hop,Instr.alloc,zeroValue,run_info hi,hzv,newVar,newRow]; rfl),new_box hr ⟨by simpa using h1,fun i c v hc hv=>h2 i c v hc (by simpa using hv)⟩ t⟩
theorem op_own (hr:Rel j M w) (he:EnvRep j M w env a) {y:Operand} {n:Nat} (hop:o.op = .assign y) (hz:cOpd y=some (.cst (.slice .c0 []))) (h:aop C env M (.own n (.cst (.slice .c0 [])))=some x) :
  ∃v w',Ran P o a w v w'∧OpOk j M w x v w':=by
 simp only [aop,Opd.ev] at h
 injection h with h; subst h
 have h1:=opd_rep he hz
 have q:Quiet w w:=⟨Nat.le_refl _,rfl,rfl,rfl⟩
 obtain ⟨A,hA⟩:∃A,a.eval y = .slice A 0 0:=by
  simp only [Opd.ev] at h1
  generalize a.eval y=v at h1
  cases h1 with
  |plain h=>cases h
  |c0 A=>exact ⟨A,rfl⟩
 refine ⟨a.eval y,w,.inl (by simp [execOp,hop]),upd j M.length none,hr.push (ob:=none) (fun b h=>by cases h) q (fun _ _=>rfl) (fun h=>by cases h) (fun sz n b h h'=>by cases h'),Ext.push (fun b h=>by cases h) q (fun _ _=>rfl),?_⟩
 rw [hA]
 exact .own (sz:=n) (n:=0) (by simp) (by simp) (RepP.nil _ _ _) fun _ => .inl ⟨by simp [upd],rfl,A,rfl⟩
def setL (w:World) (b:Nat):Nat→List Value→World
 |_,[]=>w
 |off,v::r=>setL (w.setCell ⟨b,off,none⟩ v) b (off+1) r
theorem setL_spec {b:Nat} {t:TypeId}:∀(l:List Value) (w:World) (off:Nat) (vs:Array Value),w.heap[b]?=some (.cells vs t (0,0))→off+l.length≤vs.size →
  (setL w b off l).heap.size=w.heap.size∧(setL w b off l).os=w.os∧(setL w b off l).tape=w.tape∧(setL w b off l).output=w.output ∧
  (∀b',b'≠b→(setL w b off l).heap[b']?=w.heap[b']?) ∧
  ∃vs',(setL w b off l).heap[b]?=some (.cells vs' t (0,0))∧vs'.size=vs.size∧(∀p,p<off∨off+l.length≤p→vs'[p]?=vs[p]?)∧∀p,p<l.length→vs'[off+p]?=l[p]?:=by
 intro l
 induction l with
 |nil=>intro w off vs h _; exact ⟨rfl,rfl,rfl,rfl,fun _ _=>rfl,vs,h,rfl,fun _ _=>rfl,fun p hp=>by simp at hp⟩
 |cons v r ih =>
  intro w off vs h hle
  simp only [List.length_cons] at hle
  have hs:(w.setCell ⟨b,off,none⟩ v).heap[b]?=some (.cells (vs.setIfInBounds off v) t (0,0)):=by
   simp [World.setCell,Array.getElem?_modify,h]
  obtain ⟨h1,h2,h3,h4,h5,vs',h6,h7,h8,h9⟩:=ih (w.setCell ⟨b,off,none⟩ v) (off+1) (vs.setIfInBounds off v) hs (by simp; omega)
  refine ⟨by simp only [setL]; rw [h1]; simp [World.setCell],by simp only [setL]; rw [h2]; rfl,by simp only [setL]; rw [h3]; rfl,by simp only [setL]; rw [h4]; rfl,fun b' hb'=>?_,vs',h6,by rw [h7]; simp,fun p hp=>?_,fun p hp=>?_⟩
  ·simp only [setL]
   rw [h5 b' hb']
   simp [World.setCell,Array.getElem?_modify,Ne.symm hb']
  ·simp only [List.length_cons] at hp
   rw [h8 p (by omega),Array.getElem?_setIfInBounds_ne (by omega)]
  ·cases p with
   |zero =>
    have:vs'[off]?=(vs.setIfInBounds off v)[off]?:=h8 off (by omega)
    rw [Nat.add_zero,this]
    simp [Array.getElem?_setIfInBounds_self]
    omega
   |succ p =>
    have:=h9 p (by simpa using hp)
    rw [show off+(p+1)=off+1+p by omega,this]
    simp
theorem storeFrom_run {b:Nat} {t:TypeId}:∀(l:List Value) (w:World) (off i:Nat) (vs:Array Value),w.heap[b]?=some (.cells vs t (0,0))→off+i+l.length≤vs.size→(∀v,v∈l→v.oneCell'=true) →
  (storeCells ⟨b,off,none⟩ l i).run P w = .ok () (setL w b (off+i) l):=by
 intro l
 induction l with
 |nil=>intro w off i vs _ _ _; simp [storeCells,setL]
 |cons v r ih =>
  intro w off i vs h hle hv
  simp only [List.length_cons] at hle
  have hs:(w.setCell ⟨b,off+i,none⟩ v).heap[b]?=some (.cells (vs.setIfInBounds (off+i) v) t (0,0)):=by
   simp [World.setCell,Array.getElem?_modify,h]
  have hc:w.cell? ⟨b,off+i,none⟩=some (vs[off+i]'(by omega)):=by
   simp [World.cell?,h]
  have hf:w.frozen? ⟨b,off+i,none⟩=false:=by simp [World.frozen?,h]
  have hi:=ih (w.setCell ⟨b,off+i,none⟩ v) off (i+1) (vs.setIfInBounds (off+i) v) hs (by simp; omega) (fun u hu=>hv u (List.mem_cons_of_mem _ hu))
  simp only [storeCells,Sem.run_bind,addr_add,run_store P w _ v .plain (hv v (by simp)),hc,hf,Bool.false_eq_true,if_false,Result.andThen_ok,hi,setL]
  congr 2
theorem writeAt_get {cs new:List AVal} {off:Nat} (h:off+new.length≤cs.length) (p:Nat) :
  (writeAt cs off new)[p]?=if off≤p∧p<off+new.length then new[p-off]? else cs[p]?:=by
 unfold writeAt
 have hl:(cs.take off).length=off:=by simp; omega
 by_cases h1:p<off
 ·rw [List.getElem?_append_left (by omega),List.getElem?_take_of_lt h1,if_neg (by omega)]
 ·rw [List.getElem?_append_right (by omega),hl]
  by_cases h2:p<off+new.length
  ·rw [List.getElem?_append_left (by omega),if_pos ⟨by omega,h2⟩]
  ·rw [List.getElem?_append_right (by omega),List.getElem?_drop,if_neg (by omega)]
   congr 1
   omega
theorem writeAt_len {cs new:List AVal} {off:Nat} (h:off+new.length≤cs.length):(writeAt cs off new).length=cs.length:=by
 unfold writeAt; simp; omega
theorem shut_rep {c:AVal} {v:Value} (h:Rep j M w c v) (hp:c.shut.plainCell=true):RepP w (Saf j M w) c.shut v:=by
 cases c<;>simp only [AVal.shut,AVal.plainCell,Bool.false_eq_true] at hp ⊢
 case bool=>have:=h.bool_inv; subst this; exact .bool _
 case int=>have:=h.int_inv; subst this; exact .int _ _
 case str=>have:=h.str_inv; subst this; exact .str _
 case slice=>exact h.slice_inv
 case raw=>cases h with|plain h=>exact h
theorem shut_isCell {c:AVal} (h:c.shut.plainCell=true):c.isCell=true:=by
 cases c<;>simp only [AVal.shut,AVal.plainCell,Bool.false_eq_true] at h<;>try rfl
 rename_i v
 cases v<;>first|rfl|(simp at h)
theorem plain_cells1 {c:AVal} (h:c.plainCell=true):c.cells=[c]:=by
 cases c<;>first|rfl|cases h
theorem putCells_cells {e:AVal} {off:Nat} {new:List AVal} (h:off+new.length≤e.cells.length) (hp:new.all AVal.plainCell=true):(putCells e off new).cells=writeAt e.cells off new:=by
 by_cases hag:∃cs,e = .agg cs
 ·obtain ⟨cs,rfl⟩:=hag
  cases new<;>rfl
 ·have h1:e.cells=[e]:=by cases e<;>first|rfl|exact absurd ⟨_,rfl⟩ hag
  rw [h1] at h ⊢
  match new,h,hp with
  | [],h,_ =>
   have:putCells e off []=e:=by cases e<;>first|rfl|exact absurd ⟨_,rfl⟩ hag
   rw [this,h1]
   simp only [List.length_nil,List.length_cons] at h
   match off,h with
   |0,_=>rfl
   |1,_=>rfl
  | [c],h,hp =>
   have:putCells e off [c]=c:=by cases e<;>first|rfl|exact absurd ⟨_,rfl⟩ hag
   have h0:off=0:=by simp at h; omega
   subst h0
   rw [this,plain_cells1 (by simpa using hp)]
   rfl
  |_::_::_,h,_=>simp at h; omega
theorem op_store (hr:Rel j M w) (he:EnvRep j M w env a) {y y':Operand} {z z':Opd} {t:TypeId} {n:Nat} (hop:o.op = .store t y y') (hn:szOf P t=some n) (hz:cOpd y=some z) (hz':cOpd y'=some z')
  (h:aop C env M (.store n z z')=some x):∃v w',Ran P o a w v w'∧OpOk j M w x v w':=by
 simp only [aop] at h
 have h1:=opd_rep he hz
 have h2:=opd_rep he hz'
 split at h
 ·rename_i id off e
  rw [e] at h1
  obtain ⟨b,_,_,hj,hv⟩:=h1.ptr_inv
  rw [nth_eq] at h
  split at h
  ·rename_i cs hM
   obtain ⟨new,hnew,h⟩:=obind_inv h
   split at h
   ·rename_i hcond
    obtain ⟨c1,c2,c3⟩:=hcond
    injection h with h; subst h
    obtain ⟨vs,t0,hw,hl,hcs,hcell⟩:=box_cell hr hM hj
    obtain ⟨n1,n2⟩:=cells_rep h2 hnew
    have hone:∀v,v∈(a.eval y').cells.toList→v.oneCell'=true:=by
     intro v hv
     obtain ⟨p,hp,rfl⟩:=List.getElem_of_mem hv
     have hp':p<(a.eval y').cells.size:=by simpa using hp
     have hpl:p<new.length:=by omega
     have hr':=n2 p _ _ (List.getElem?_eq_getElem hpl) (Array.getElem?_eq_getElem hp')
     have:=cell_one hr' (List.all_eq_true.1 c3 _ (List.getElem_mem hpl))
     simpa using this
    have hrun:=storeFrom_run (P:=P) (a.eval y').cells.toList w off 0 vs hw (by simp; omega) hone
    obtain ⟨s1,s2,s3,s4,s5,vs',s6,s7,s8,s9⟩:=setL_spec (a.eval y').cells.toList w off vs hw (by simp; omega)
    have q:Quiet w (setL w b off (a.eval y').cells.toList):=⟨by omega,s2,s3,s4⟩
    have hle:off+new.length≤cs.length:=by omega
    rw [setN_eq]
    refine ⟨undef,setL w b off (a.eval y').cells.toList,.inr ⟨?_,rfl⟩,j,Rel.store hM rfl rfl hj hr q (fun b' hb' _=>s5 b' hb') (fun vs0 t1 fr h=>by rw [hw] at h; injection h with h; injection h with h1 h2 h3; subst h1; subst h2; exact ⟨_,_,s6,s7⟩) (fun j' M' hx=>⟨vs',t0,s6,by rw [writeAt_len hle]; omega,fun p c v hc hv'=>Rep.mono hx ?_⟩),Ext.store hM rfl rfl hj hr q (fun b' hb' _=>s5 b' hb') (fun vs0 t1 fr h=>by rw [hw] at h; injection h with h; injection h with h1 h2 h3; subst h1; subst h2; exact ⟨_,_,s6,s7⟩),.any _⟩
    ·simp only [Nat.add_zero] at hrun
     simp [execOp,hop,Instr.storeAt,Instr.sureAddr,hv,storeVar,run_size hn,show (a.eval y').cells.size=n by omega,hrun]
    ·rw [writeAt_get hle] at hc
     split at hc
     ·rename_i hp
      have h9:=s9 (p-off) (by simp; omega)
      rw [show off+(p-off)=p by omega,hv'] at h9
      exact n2 (p-off) c v hc (by simpa using h9.symm)
     ·rename_i hp
      have h8:=s8 p (by simp; omega)
      rw [hv'] at h8
      exact hcs p c v hc h8.symm
   ·cases h
  ·cases h
 ·rename_i id ver i off e
  rw [e] at h1
  rw [nth_eq] at h
  split at h
  ·rename_i sz v0 xs hM
   obtain ⟨new,hnew,h⟩:=obind_inv h
   obtain ⟨el,hel,h⟩:=obind_inv h
   split at h
   ·rename_i hcond
    obtain ⟨hv0,c1,c2,c3⟩:=hcond
    subst hv0
    injection h with h; subst h
    obtain ⟨_,hid,_,hv⟩:=h1.eptr_inv
    obtain ⟨hi,b,hj,hv⟩:=(hv sz v0 xs hM).2 rfl
    obtain ⟨b',vs,t0,k1,hw,k3,k4,k5⟩:=hr.arr id sz v0 xs hM
    rw [hj] at k1; injection k1 with k1; subst k1
    have hsz:el.cells.length=sz:=k4 el (List.mem_of_getElem? hel)
    have hbd:i*sz+sz≤vs.size:=by
     refine Nat.le_trans ?_ k3
     calc i*sz+sz=(i+1)*sz:=by rw [Nat.add_mul]; omega
      _≤xs.length*sz:=Nat.mul_le_mul_right _ hi
    obtain ⟨n1,n2⟩:=cells_rep h2 hnew
    have hpl:∀(p:Nat) (c:AVal),new[p]?=some c→c.shut.plainCell=true:=fun p c hc=>by
     rw [List.all_map,List.all_eq_true] at c3
     exact c3 c (List.mem_of_getElem? hc)
    have hone:∀v,v∈(a.eval y').cells.toList→v.oneCell'=true:=by
     intro v hv
     obtain ⟨p,hp,rfl⟩:=List.getElem_of_mem hv
     have hp':p<(a.eval y').cells.size:=by simpa using hp
     have hpl':p<new.length:=by omega
     have hr':=n2 p _ _ (List.getElem?_eq_getElem hpl') (Array.getElem?_eq_getElem hp')
     have:=cell_one hr' (shut_isCell (hpl p _ (List.getElem?_eq_getElem hpl')))
     simpa using this
    have hrun:=storeFrom_run (P:=P) (a.eval y').cells.toList w (i*sz+off) 0 vs hw (by simp; omega) hone
    obtain ⟨s1,s2,s3,s4,s5,vs',s6,s7,s8,s9⟩:=setL_spec (a.eval y').cells.toList w (i*sz+off) vs hw (by simp; omega)
    have q:Quiet w (setL w b (i*sz+off) (a.eval y').cells.toList):=⟨by omega,s2,s3,s4⟩
    have hle:off+(new.map AVal.shut).length≤el.cells.length:=by simp; omega
    have hput:=putCells_cells hle c3
    have hw':∀vs0 t1,w.heap[b]?=some (.cells vs0 t1 (0,0))→∃vs1,(setL w b (i*sz+off) (a.eval y').cells.toList).heap[b]?=some (.cells vs1 t1 (0,0))∧vs1.size=vs0.size:=fun vs0 t1 h=>by
     rw [hw] at h; injection h with h; injection h with e1 e2
     subst e1; subst e2
     exact ⟨vs',s6,s7⟩
    rw [setN_eq,setN_eq]
    refine ⟨undef,setL w b (i*sz+off) (a.eval y').cells.toList,.inr ⟨?_,rfl⟩,j,Rel.arrIn hM hj hr q (fun b' hb' _=>s5 b' hb') hw' (Nat.le_refl _) (fun _=>by simp) (fun j' M' hx=>⟨vs',t0,s6,by simp; omega,fun x hx'=>?_,fun p x k c hp hk=>?_⟩),Ext.arrIn hM hj hr q (fun b' hb' _=>s5 b' hb') hw' (Nat.le_refl _) (fun _=>by simp),.any _⟩
    ·simp only [Nat.add_zero] at hrun
     simp [execOp,hop,Instr.storeAt,Instr.sureAddr,hv,storeVar,run_size hn,show (a.eval y').cells.size=n by omega,hrun]
    ·rcases List.mem_or_eq_of_mem_set hx' with hx'|rfl
     ·exact k4 x hx'
     ·rw [hput,writeAt_len hle,hsz]
    ·have hlen:(a.eval y').cells.toList.length=n:=by simp; omega
     by_cases hpi:i=p
     ·subst hpi
      rw [List.getElem?_set_self hi] at hp
      injection hp with hp; subst hp
      rw [hput,writeAt_get hle] at hk
      split at hk
      ·rename_i hin
       simp only [List.length_map] at hin
       rw [List.getElem?_map,Option.map_eq_some_iff] at hk
       obtain ⟨c0,hc0,rfl⟩:=hk
       have h9:=s9 (k-off) (by omega)
       rw [show i*sz+off+(k-off)=i*sz+k by omega] at h9
       have hlt:k-off<(a.eval y').cells.size:=by omega
       have hu:(a.eval y').cells[k-off]?=some (a.eval y').cells[k-off]:=Array.getElem?_eq_getElem hlt
       exact ⟨_,by rw [h9]; simp,(shut_rep (n2 _ c0 _ hc0 hu) (hpl _ c0 hc0)).mono hx.saf⟩
      ·rename_i hin
       simp only [List.length_map] at hin
       obtain ⟨u,u1,u2⟩:=k5 i el k c hel hk
       exact ⟨u,by rw [s8 _ (by omega)]; exact u1,u2.mono hx.saf⟩
     ·rw [List.getElem?_set_ne hpi] at hp
      obtain ⟨u,u1,u2⟩:=k5 p x k c hp hk
      have hk':k<sz:=by rw [←k4 x (List.mem_of_getElem? hp)]; exact lt_of_some hk
      refine ⟨u,(s8 _ ?_).trans u1,u2.mono hx.saf⟩
      rcases Nat.lt_or_ge p i with hlt|hge
      ·left
       have:=Nat.mul_le_mul_right sz (show p+1≤i from hlt)
       rw [Nat.add_mul] at this
       omega
      ·right
       have:=Nat.mul_le_mul_right sz (show i+1≤p by omega)
       rw [Nat.add_mul] at this
       omega
   ·cases h
  ·cases h
 ·cases h
end
end Go.Abs
namespace Go.Abs
open Go Go.RowKit
variable [Globs]
theorem row_spec (off:Nat):∀(l:List Value) (k:Nat) (cells:Array Value),
  ((l.zipIdx k).foldl (fun (cs:Array Value) (x:Value×Nat)=>cs.setIfInBounds (off+x.2) x.1) cells).size=cells.size ∧
  ∀p,((l.zipIdx k).foldl (fun (cs:Array Value) (x:Value×Nat)=>cs.setIfInBounds (off+x.2) x.1) cells)[p]? =
   if off+k≤p∧p<off+k+l.length∧p<cells.size then l[p-(off+k)]? else cells[p]?:=by
 intro l
 induction l with
 |nil=>intro k cells; exact ⟨rfl,fun p=>by simp; omega⟩
 |cons v r ih =>
  intro k cells
  rw [List.zipIdx_cons,List.foldl_cons]
  obtain ⟨h1,h2⟩:=ih (k+1) (cells.setIfInBounds (off+k) v)
  refine ⟨by rw [h1]; simp,fun p=>?_⟩
  rw [h2]
  simp only [Array.size_setIfInBounds,List.length_cons]
  by_cases c1:off+(k+1)≤p∧p<off+(k+1)+r.length∧p<cells.size
  ·rw [if_pos c1,if_pos (by omega),show p-(off+k)=(p-(off+(k+1)))+1 by omega]
   simp
  ·rw [if_neg c1]
   by_cases c2:p=off+k∧p<cells.size
   ·obtain ⟨rfl,hlt⟩:=c2
    rw [if_pos (by omega)]
    simp [Array.getElem?_setIfInBounds_self,hlt]
   ·rw [if_neg (by omega)]
    by_cases c3:p=off+k
    ·have:¬p<cells.size:=fun h=>c2 ⟨c3,h⟩
     rw [Array.getElem?_eq_none (by simp; omega),Array.getElem?_eq_none (by omega)]
    ·rw [Array.getElem?_setIfInBounds_ne (by omega)]
def putRow (cells:Array Value) (off:Nat) (vs:Array Value):Array Value:=vs.zipIdx.foldl (fun cs (c,k)=>cs.setIfInBounds (off+k) c) cells
theorem putRow_spec (cells:Array Value) (off:Nat) (vs:Array Value):(putRow cells off vs).size=cells.size ∧
  ∀p,(putRow cells off vs)[p]?=if off≤p∧p<off+vs.size∧p<cells.size then vs[p-off]? else cells[p]?:=by
 have h:=row_spec off vs.toList 0 cells
 have e:putRow cells off vs=(vs.toList.zipIdx 0).foldl (fun (cs:Array Value) (x:Value×Nat)=>cs.setIfInBounds (off+x.2) x.1) cells:=by
  unfold putRow
  rw [←Array.foldl_toList]
  simp
 rw [e]
 exact ⟨h.1,fun p=>by rw [h.2 p]; simp⟩
section
variable {P:Program} {C:CallF} {o:Oper} {env:Env} {M:AMem} {j:J} {w:World} {a:Act} {x:AVal×AMem}
theorem RC.write {cs new:List AVal} {cells vs:Array Value} {off:Nat} (h:RC j M w cs cells) (hn:RC j M w new vs) (hle:off+new.length≤cs.length):RC j M w (writeAt cs off new) (putRow cells off vs):=by
 obtain ⟨p1,p2⟩:=putRow_spec cells off vs
 have h1:=h.1
 have h2:=hn.1
 refine ⟨by rw [writeAt_len hle,p1]; exact h1,fun i c v hc hv=>?_⟩
 rw [writeAt_get hle] at hc
 rw [p2] at hv
 have hi:i<cells.size:=by
  rcases Nat.lt_or_ge i cells.size with hi|hi
  ·exact hi
  ·rw [if_neg (by omega),Array.getElem?_eq_none hi] at hv; cases hv
 split at hc
 ·rename_i hp
  rw [if_pos (by omega)] at hv
  exact hn.2 _ c v hc hv
 ·rename_i hp
  rw [if_neg (by omega)] at hv
  exact h.2 _ c v hc hv
theorem mapM_run {α β:Type} {g:α→Sem β} {f:α→β}:∀(l:List α),(∀x,x∈l→(g x).run P w = .ok (f x) w)→(l.mapM g).run P w = .ok (l.map f) w:=by
 intro l
 induction l with
 |nil=>intro _; simp
 |cons y r ih =>
  intro h
  simp [List.mapM_cons,h y (by simp),ih fun x hx=>h x (by simp [hx])]
theorem fill_struct {fs:Array Field} (he:EnvRep j M w env a) (hfs:∀f,f∈fs.toList→(P.info? f.type).isSome=true):∀ {parts:List (Nat×Operand)} {ps:List (Nat×Nat×Opd)} {cs cs':List AVal} {cells:Array Value},
  cParts P fs parts=some ps→fillParts env cs ps=some cs'→RC j M w cs cells →
  ∃cells',Instr.fill (fun i=>(fs.map fun f=>(f.offset,P.cellsOf f.type))[i]?) cells (parts.map fun p=>(p.1,a.eval p.2))=some cells'∧RC j M w cs' cells':=by
 intro parts
 induction parts with
 |nil =>
  intro ps cs cs' cells h1 h2 h3
  simp [cParts] at h1; subst h1
  simp [fillParts] at h2; subst h2
  exact ⟨cells,rfl,h3⟩
 |cons p r ih =>
  intro ps cs cs' cells h1 h2 h3
  obtain ⟨i,y⟩:=p
  simp only [cParts] at h1
  obtain ⟨f,hf,h1⟩:=bind_inv h1
  obtain ⟨n,hn,h1⟩:=bind_inv h1
  obtain ⟨z,hz,h1⟩:=bind_inv h1
  obtain ⟨l,hl,h1⟩:=bind_inv h1
  injection h1 with h1; subst h1
  simp only [fillParts] at h2
  obtain ⟨new,hnew,h2⟩:=obind_inv h2
  split at h2
  ·rename_i hc
   obtain ⟨c1,c2⟩:=hc
   have hrc:=cells_rep (opd_rep he hz) hnew
   obtain ⟨inf,hinf,hsz⟩:=szOf_inv hn
   have hco:P.cellsOf f.type=n:=by simp [Program.cellsOf,hinf,hsz]
   obtain ⟨cells',e1,e2⟩:=ih hl h2 (h3.write (off:=f.offset) hrc (by omega))
   refine ⟨cells',?_,e2⟩
   have hs1:=hrc.1
   have hs2:=h3.1
   have hpl:(fs.map fun f=>(f.offset,P.cellsOf f.type))[i]?=some (f.offset,n):=by simp [hf,hco]
   simp only [List.map_cons,Instr.fill,hpl]
   rw [if_neg (by simp; omega)]
   exact e1
  ·cases h2
theorem op_build (hr:Rel j M w) (he:EnvRep j M w env a) {t:TypeId} {parts:Array (Nat×Operand)} {fs:Array Field} {i:TypeInfo} {zv:Value} {l:List AVal} {ps:List (Nat×Nat×Opd)} (hop:o.op = .build t parts)
  (ht:P.underlying t=some (.struct fs)) (hi:P.info? t=some i) (hzv:i.zero=some zv) (hl:absL zv.cells.toList=some l) (hps:cParts P fs parts.toList=some ps) (hfs:fs.all (fun f=>(P.info? f.type).isSome)=true)
  (h:aop C env M (.build l ps)=some x):∃v w',Ran P o a w v w'∧OpOk j M w x v w':=by
 simp only [aop] at h
 obtain ⟨cs,hcs,h⟩:=obind_inv h
 injection h with h; subst h
 obtain ⟨h1,h2⟩:=absL_rep (j:=j) (M:=M) (w:=w) hl
 have hfs':∀f,f∈fs.toList→(P.info? f.type).isSome=true:=fun f hf=>by
  have:=Array.all_eq_true'.1 hfs f (by simpa using hf)
  simpa using this
 obtain ⟨cells',e1,e2⟩:=fill_struct (P:=P) he hfs' hps hcs (cells:=zv.cells) ⟨by simpa using h1,fun i c v hc hv=>h2 i c v hc (by simpa using hv)⟩
 have hmap:(fs.mapM fun f=>do pure (f.offset,←sizeOf f.type):Sem _).run P w = .ok (fs.map fun f=>(f.offset,P.cellsOf f.type)) w:=by
  rw [Array.mapM_eq_mapM_toList]
  have hm:=mapM_run (P:=P) (w:=w) (g:=fun f:Field=>(do pure (f.offset,←sizeOf f.type):Sem _)) (f:=fun f:Field=>(f.offset,P.cellsOf f.type)) fs.toList fun f hf=>by
   obtain ⟨inf,hinf⟩:=Option.isSome_iff_exists.1 (hfs' f hf)
   simp [sizeOf,run_info hinf,Program.cellsOf,hinf]
  rw [Sem.run_map,hm,←Array.toList_map]
  simp only [Result.andThen_ok,Array.toArray_toList]
 refine ⟨.agg cells',w,.inl ?_,.still hr (.agg e2.1 e2.2)⟩
 have e1':Instr.fill (fun i=>(fs.map fun f=>(f.offset,P.cellsOf f.type))[i]?) zv.cells (parts.map fun p=>(p.1,a.eval p.2)).toList=some cells':=by simpa using e1
 simp only [execOp,hop,Instr.build,zeroValue,Sem.run_bind,run_info hi,Result.andThen_ok,hzv,Sem.run_pure,run_und ht,hmap]
 simp only [e1',Sem.run_pure,Result.andThen_ok]
theorem shutD_cells {y:AVal} {v:Value} (h:Rep j M w y v) (hp:y.shutD.plain=true):y.shutD.cells.length=v.cells.size ∧
  ∀(k:Nat) (c:AVal) (u:Value),y.shutD.cells[k]?=some c→v.cells[k]?=some u→RepP w (Saf j M w) c u:=by
 by_cases hag:∃cs,y = .agg cs
 ·obtain ⟨cs,rfl⟩:=hag
  obtain ⟨vs,rfl,h1,h2⟩:=h.agg_inv
  simp only [AVal.shutD,AVal.plain,AVal.cells,Value.cells] at hp ⊢
  refine ⟨by simpa using h1,fun k c u hc hu=>?_⟩
  rw [List.getElem?_map,Option.map_eq_some_iff] at hc
  obtain ⟨c0,hc0,rfl⟩:=hc
  refine shut_rep (h2 k c0 u hc0 hu) ?_
  have:=List.all_eq_true.1 hp c0.shut (List.mem_map.2 ⟨c0,List.mem_of_getElem? hc0,rfl⟩)
  exact this
 ·have hs:y.shutD=y.shut:=by cases y<;>first|rfl|exact absurd ⟨_,rfl⟩ hag
  have hpl:y.shut.plainCell=true:=by
   rw [hs] at hp
   cases y<;>first|exact hp|exact absurd ⟨_,rfl⟩ hag
  have hr:=shut_rep h hpl
  have hc1:y.shut.cells=[y.shut]:=by cases y<;>first|rfl|exact absurd ⟨_,rfl⟩ hag
  have hv1:v.cells = #[v]:=by
   cases y<;>simp only [AVal.shut,AVal.plainCell,Bool.false_eq_true] at hpl
   case bool=>have:=h.bool_inv; subst this; rfl
   case int=>have:=h.int_inv; subst this; rfl
   case str=>have:=h.str_inv; subst this; rfl
   case slice=>obtain ⟨A,cap,b,off,sz,vs,e,_⟩:=h.slice_inv.slice_inv; subst e; rfl
   case raw=>cases h with|plain h=>cases h; cases v<;>simp_all [Value.cells]
  rw [hs,hc1,hv1]
  refine ⟨rfl,fun k c u hc hu=>?_⟩
  cases k with
  |zero=>simp at hc hu; subst hc; subst hu; exact hr
  |succ k=>simp at hc
theorem fill_row {sz:Nat}:∀(l:List Value) (k:Nat) (cells:Array Value),(∀v,v∈l→v.cells.size=sz)→(k+l.length)*sz≤cells.size →
  ∃cells',Instr.fill (fun i=>some (i*sz,sz)) cells ((l.zipIdx k).map fun x=>(x.2,x.1))=some cells'∧cells'.size=cells.size∧(∀p,p<k*sz→cells'[p]?=cells[p]?) ∧
   ∀i v q,l[i]?=some v→q<sz→cells'[(k+i)*sz+q]?=v.cells[q]?:=by
 intro l
 induction l with
 |nil=>intro k cells _ _; exact ⟨cells,rfl,rfl,fun _ _=>rfl,fun i v q h=>by simp at h⟩
 |cons v r ih =>
  intro k cells hv hle
  have hv0:=hv v (by simp)
  have hk1:(k+1)*sz=k*sz+sz:=Nat.succ_mul k sz
  have hle':k*sz+sz≤cells.size:=by
   have:(k+1)*sz≤(k+(r.length+1))*sz:=Nat.mul_le_mul_right _ (by omega)
   simp only [List.length_cons] at hle
   omega
  obtain ⟨p1,p2⟩:=putRow_spec cells (k*sz) v.cells
  obtain ⟨cells',e1,e2,e3,e4⟩:=ih (k+1) (putRow cells (k*sz) v.cells) (fun u hu=>hv u (by simp [hu])) (by rw [p1]; simp only [List.length_cons] at hle; rw [show k+1+r.length=k+(r.length+1) by omega]; exact hle)
  refine ⟨cells',?_,by rw [e2,p1],fun p hp=>?_,fun i u q hi hq=>?_⟩
  ·rw [List.zipIdx_cons,List.map_cons]
   simp only [Instr.fill]
   rw [if_neg (by simp; omega)]
   exact e1
  ·rw [e3 p (by omega),p2,if_neg (by omega)]
  ·cases i with
   |zero =>
    simp at hi; subst hi
    rw [Nat.add_zero,e3 _ (by omega),p2,if_pos (by omega)]
    congr 1
    omega
   |succ i =>
    have:=e4 i u q (by simpa using hi) hq
    rw [show k+1+i=k+(i+1) by omega] at this
    exact this
theorem cRow_spec:∀ {l:List (Nat×Operand)} {k:Nat} {zs:List Opd},cRow k l=some zs→∃ys:List Operand,l=(ys.zipIdx k).map (fun x=>(x.2,x.1))∧cOpds ys=some zs
 | [],k,zs,h=>by simp [cRow] at h; subst h; exact ⟨[],rfl,rfl⟩
 |(i,y)::r,k,zs,h=>by
  simp only [cRow] at h
  split at h
  ·rename_i hi
   obtain ⟨z,hz,h⟩:=bind_inv h
   obtain ⟨l,hl,h⟩:=bind_inv h
   injection h with h; subst h
   obtain ⟨ys,e1,e2⟩:=cRow_spec hl
   exact ⟨y::ys,by rw [List.zipIdx_cons,List.map_cons,hi,e1],by simp [cOpds,hz,e2]⟩
  ·cases h
theorem lits_spec:∀ {zs:List Opd} {sz:Nat} {l:List AVal},litsOf env sz zs=some l→l.length=zs.length ∧
  ∀(i:Nat) (y:AVal) (z:Opd),l[i]?=some y→zs[i]?=some z→y=(z.ev env).shutD∧y.plain=true∧y.cells.length=sz
 | [],sz,l,h=>by simp [litsOf] at h; subst h; exact ⟨rfl,fun i y z h=>by simp at h⟩
 |z::r,sz,l,h=>by
  simp only [litsOf] at h
  split at h
  ·rename_i hc
   obtain ⟨l',hl,h⟩:=obind_inv h
   injection h with h; subst h
   obtain ⟨h1,h2⟩:=lits_spec hl
   refine ⟨by simp [h1],fun i y z' hy hz=>?_⟩
   cases i with
   |zero=>simp at hy hz; subst hy; subst hz; exact ⟨rfl,hc.1,hc.2⟩
   |succ i=>exact h2 i y z' (by simpa using hy) (by simpa using hz)
  ·cases h
theorem push_grow (o:Obj):Quiet w { w with heap:=w.heap.push o }∧(∀b,b<w.heap.size→({ w with heap:=w.heap.push o }:World).heap[b]?=w.heap[b]?)∧({ w with heap:=w.heap.push o }:World).heap[w.heap.size]?=some o :=
 ⟨⟨by simp,rfl,rfl,rfl⟩,fun b hb=>by
  show (w.heap.push _)[b]?=_
  rw [Array.getElem?_push,if_neg (by omega)],by simp⟩
theorem lits_core (he:EnvRep j M w env a) {t e:TypeId} {len:Nat} {parts:Array (Nat×Operand)} {i:TypeInfo} {zs:List Opd} {l:List AVal} (hop:o.op = .buildSlice t len parts) (ht:P.underlying t=some (.slice e))
  (hi:P.info? e=some i) (hzs:cRow 0 parts.toList=some zs) (hlen:zs.length=len) (hroom:len*i.size≤2 ^ 24) (hzero:(i.zero.map fun z=>z.cells.size)=some i.size)
  (hl:litsOf env i.size zs=some l):l.length=len∧wid l i.size∧∃cells':Array Value,cells'.size=len*i.size ∧
   (execOp a.eval o).run P w = .ok (.value (.slice (some ⟨w.heap.size,0,none⟩) len len)) { w with heap:=w.heap.push (.cells cells' e (0,0)) } ∧
   ∀(n:Nat) (y:AVal) (k:Nat) (c:AVal),l[n]?=some y→y.cells[k]?=some c→∃u,cells'[n*i.size+k]?=some u∧RepP w (Saf j M w) c u:=by
 obtain ⟨ys,hys,hyz⟩:=cRow_spec hzs
 obtain ⟨l1,l2⟩:=lits_spec hl
 obtain ⟨y1,y2⟩:=opds_rep he hyz
 obtain ⟨zv,hzv,hzs'⟩:∃zv,i.zero=some zv∧zv.cells.size=i.size:=by
  cases hz:i.zero with
  |none=>rw [hz] at hzero; cases hzero
  |some zv=>rw [hz] at hzero; exact ⟨zv,rfl,by simpa using hzero⟩
 have hvs:∀v,v∈ys.map a.eval→v.cells.size=i.size:=by
  intro v hv
  obtain ⟨y,hy,rfl⟩:=List.mem_map.1 hv
  obtain ⟨p,hp,rfl⟩:=List.getElem_of_mem hy
  have hpz:p<zs.length:=by omega
  have hpl:p<l.length:=by omega
  have hrep:=y2 p _ _ (List.getElem?_eq_getElem hpz) (List.getElem?_eq_getElem hp)
  obtain ⟨e1,e2,e3⟩:=l2 p _ _ (List.getElem?_eq_getElem hpl) (List.getElem?_eq_getElem hpz)
  have:=(shutD_cells hrep (by rw [←e1]; exact e2)).1
  rw [←e1] at this
  omega
 let zero:Array Value:=if len*i.size=0 then #[] else zv.cells
 let cells0:Array Value:=(Array.range (len*i.size)).map (zero[· % zero.size]!)
 obtain ⟨cells',f1,f2,f3,f4⟩:=fill_row (sz:=i.size) (ys.map a.eval) 0 cells0 hvs (by simp [cells0,←hlen,y1])
 have hfill:Instr.fill (fun k=>some (k*i.size,i.size)) cells0 (parts.map fun p=>(p.1,a.eval p.2)).toList=some cells':=by
  have:(parts.map fun p=>(p.1,a.eval p.2)).toList=((ys.map a.eval).zipIdx 0).map fun x=>(x.2,x.1):=by
   rw [Array.toList_map,hys,List.map_map,List.zipIdx_map,List.map_map]
   rfl
  rw [this]; exact f1
 have hrun:(execOp a.eval o).run P w = .ok (.value (.slice (some ⟨w.heap.size,0,none⟩) len len)) { w with heap:=w.heap.push (.cells cells' e (0,0)) }:=by
  simp only [execOp,hop,Instr.buildSlice,Sem.run_bind,run_und ht,Result.andThen_ok,run_size (show szOf P e=some i.size by simp [szOf,hi]),if_neg (show ¬len*i.size>2 ^ 24 by omega),Sem.run_pure]
  simp only [cells0] at hfill
  by_cases hc:len*i.size=0
  ·have hz:zero = #[]:=if_pos hc
   rw [hz] at hfill
   rw [if_pos hc]
   simp only [Sem.run_bind,Sem.run_pure,Result.andThen_ok,hfill]
   simp [newRow]
  ·have hz:zero=zv.cells:=if_neg hc
   rw [hz] at hfill
   rw [if_neg hc]
   simp only [zeroValue,Sem.run_bind,run_info hi,Result.andThen_ok,hzv,Sem.run_pure,hfill]
   simp [newRow]
 have hel:∀(n:Nat) (y:AVal) (k:Nat) (c:AVal),l[n]?=some y→y.cells[k]?=some c→∃u,cells'[n*i.size+k]?=some u∧RepP w (Saf j M w) c u:=by
  intro n y k c hn hk
  have hnl:=lt_of_some hn
  have hz:=List.getElem?_eq_getElem (show n<zs.length by omega)
  have hy:=List.getElem?_eq_getElem (show n<ys.length by omega)
  obtain ⟨e1,e2,e3⟩:=l2 n y _ hn hz
  have hrep:=y2 n _ _ hz hy
  obtain ⟨s1,s2⟩:=shutD_cells hrep (by rw [←e1]; exact e2)
  rw [←e1] at s1 s2
  have hkl:=lt_of_some hk
  have hu:=Array.getElem?_eq_getElem (show k<(a.eval ys[n]).cells.size by omega)
  have f:=f4 n (a.eval ys[n]) k (by simp [hy]) (by omega)
  rw [Nat.zero_add] at f
  exact ⟨_,f.trans hu,s2 k c _ hk hu⟩
 refine ⟨by omega,fun y hy=>?_,cells',by first|(simp [f2,cells0])|(simp [f3,cells0]),hrun,hel⟩
 obtain ⟨p,hp,rfl⟩:=List.getElem_of_mem hy
 exact (l2 p _ _ (List.getElem?_eq_getElem hp) (List.getElem?_eq_getElem (by omega))).2.2
theorem op_lits (hr:Rel j M w) (he:EnvRep j M w env a) {t e:TypeId} {len:Nat} {parts:Array (Nat×Operand)} {i:TypeInfo} {zs:List Opd} (hop:o.op = .buildSlice t len parts) (ht:P.underlying t=some (.slice e))
  (hi:P.info? e=some i) (hzs:cRow 0 parts.toList=some zs) (hlen:zs.length=len) (hroom:len*i.size≤2 ^ 24) (hzero:(i.zero.map fun z=>z.cells.size)=some i.size)
  (h:aop C env M (.lits i.size zs)=some x):∃v w',Ran P o a w v w'∧OpOk j M w x v w':=by
 simp only [aop] at h
 obtain ⟨l,hl,h⟩:=obind_inv h
 obtain ⟨hll,hwd,cells',_,hrun,hel⟩:=lits_core (w:=w) he hop ht hi hzs hlen hroom hzero hl
 obtain ⟨q,hb,hnew⟩:=push_grow (w:=w) (.cells cells' e (0,0))
 refine ⟨_,_,.inl hrun,?_⟩
 have ext:Ext j M w j M { w with heap:=w.heap.push (.cells cells' e (0,0)) }:=Ext.grow q.size rfl rfl rfl hb
 have rel:Rel j M { w with heap:=w.heap.push (.cells cells' e (0,0)) }:=hr.grow q.size rfl rfl rfl hb
 have key:RepP { w with heap:=w.heap.push (.cells cells' e (0,0)) } (Saf j M { w with heap:=w.heap.push (.cells cells' e (0,0)) }) (.slice .sh l) (.slice (some ⟨w.heap.size,0,none⟩) len len):=by
  refine .slice l _ _ _ w.heap.size 0 i.size (fun p=>(cells'[p]?).getD undef) hll.symm (Nat.le_refl _) (fun _=>rfl) hwd (fun n y k c hn hk=>?_) (fun n y k c hn hk=>?_)
  ·obtain ⟨u,hu,_⟩:=hel n y k c hn hk
   refine ⟨?_,by simp,fun id hid hj=>?_,fun hx=>absurd (hr.xlt _ _ hx) (Nat.lt_irrefl _)⟩
   ·simp only [World.cell?,hnew,Nat.zero_add,hu]
    rfl
   ·have:=hr.lt id _ hid hj
    omega
  ·obtain ⟨u,hu,hru⟩:=hel n y k c hn hk
   rw [hu]
   exact hru.mono ext.saf
 injection h with h
 subst h
 cases l with
 |nil =>
  have:len=0:=by simpa using hll.symm
  subst this
  exact ⟨j,rel,ext,.c0 _⟩
 |cons y r=>exact ⟨j,rel,ext,.plain key⟩
theorem op_litsO (hr:Rel j M w) (he:EnvRep j M w env a) {t e:TypeId} {len:Nat} {parts:Array (Nat×Operand)} {i:TypeInfo} {zs:List Opd} (hop:o.op = .buildSlice t len parts) (ht:P.underlying t=some (.slice e))
  (hi:P.info? e=some i) (hzs:cRow 0 parts.toList=some zs) (hlen:zs.length=len) (hroom:len*i.size≤2 ^ 24) (hzero:(i.zero.map fun z=>z.cells.size)=some i.size)
  (h:aop C env M (.litsO i.size zs)=some x):∃v w',Ran P o a w v w'∧OpOk j M w x v w':=by
 simp only [aop] at h
 obtain ⟨l,hl,h⟩:=obind_inv h
 injection h with h; subst h
 obtain ⟨hll,hwd,cells',hcs,hrun,hel⟩:=lits_core (w:=w) he hop ht hi hzs hlen hroom hzero hl
 obtain ⟨q,hb,hnew⟩:=push_grow (w:=w) (.cells cells' e (0,0))
 have hob:∀b,some w.heap.size=some b→w.heap.size≤b∧b<({ w with heap:=w.heap.push (.cells cells' e (0,0)) }:World).heap.size:=fun b h=>by injection h with h; subst h; simp
 have ext:Ext j M w (upd j M.length (some w.heap.size)) (M++[.tick i.size l.length]) { w with heap:=w.heap.push (.cells cells' e (0,0)) }:=Ext.push (fun b hb=>(hob b hb).1) q hb
 refine ⟨_,_,.inl hrun,upd j M.length (some w.heap.size),hr.push hob q hb (fun h=>by cases h) (fun sz n b _ hb=>by injection hb with hb; subst hb; exact ⟨cells',e,hnew⟩),ext,?_⟩
 refine .own (sz:=i.size) (n:=l.length) (by simp) (Nat.le_refl _) ?_ fun _ => .inr ⟨w.heap.size,len,cells',e,by simp [upd],by rw [hll],hnew,by omega,by omega⟩
 refine .slice l _ _ _ w.heap.size 0 i.size (fun p=>(cells'[p]?).getD undef) hll.symm (Nat.le_refl _) (fun _=>rfl) hwd (fun n y k c hn hk=>?_) (fun n y k c hn hk=>?_)
 ·obtain ⟨u,hu,_⟩:=hel n y k c hn hk
  have hk':k<i.size:=by rw [←hwd y (List.mem_of_getElem? hn)]; exact lt_of_some hk
  refine ⟨?_,by simp,fun id hid hj=>?_,fun hx=>absurd (hr.xlt _ _ (by rw [←ext.X]; exact hx)) (Nat.lt_irrefl _)⟩
  ·simp only [World.cell?,hnew,Nat.zero_add,hu]
   rfl
  ·have hid':id=M.length:=by
    rcases Nat.lt_or_ge id M.length with h|h
    ·rw [show upd j M.length (some w.heap.size) id=j id by simp [upd,Nat.ne_of_lt h]] at hj
     exact absurd (hr.lt id _ h hj) (Nat.lt_irrefl _)
    ·simp at hid; omega
   subst hid'
   refine ⟨i.size,l.length,by simp,?_⟩
   have:=Nat.mul_le_mul_right i.size (show n+1≤l.length from lt_of_some hn)
   rw [Nat.add_mul] at this
   omega
 ·obtain ⟨u,hu,hru⟩:=hel n y k c hn hk
  rw [hu]
  exact hru.mono ext.saf
end
end Go.Abs
namespace Go.Abs
open Go Go.RowKit
variable [Globs]
theorem Rep.c0_inv {j:J} {M:AMem} {w:World} {xs:List AVal} {v:Value} (h:Rep j M w (.slice .c0 xs) v):∃A,v = .slice A 0 0:=by
 cases h with
 |plain h=>cases h
 |c0 A=>exact ⟨A,rfl⟩
theorem Rep.own_inv {j:J} {M:AMem} {w:World} {k:Nat} {xs:List AVal} {v:Value} (h:Rep j M w (.slice (.own k) xs) v) :
  ∃sz n,M[k]?=some (.tick sz n)∧xs.length≤n∧RepP w (Saf j M w) (.slice .sh xs) v∧(xs.length=n→TickV j w k sz n v):=by
 cases h with
 |plain h=>cases h
 |own hk hn h ht=>exact ⟨_,_,hk,hn,h,ht⟩
theorem growBy_le (n:Nat):∀(r c:Nat),c≤2*n+1000→Builtin.growBy n r c≤2*n+1000
 |0,c,h=>h
 |r+1,c,h=>by
  unfold Builtin.growBy
  split
  ·exact h
  ·exact growBy_le n r _ (by omega)
theorem nextcap_le {n c:Nat} (h:c<n):Builtin.nextslicecap n c≤2*n+1000:=by
 unfold Builtin.nextslicecap
 split
 ·omega
 ·split
  ·omega
  ·exact growBy_le n 4 c (by omega)
theorem RepP.one {w:World} {saf:Nat→Nat→Prop} {c:AVal} {v:Value} (h:RepP w saf c v):v.oneCell'=true:=by
 cases h<;>first|rfl|assumption
section
variable {P:Program} {C:CallF} {o:Oper} {env:Env} {M:AMem} {j:J} {w:World} {a:Act} {x:AVal×AMem}
theorem first_run {saf:Nat→Nat→Prop} {xs:List AVal} {v:Value} {size:Nat} (hx:RepP w saf (.slice .sh xs) v) (hw:wid xs size) (hpos:0<size) :
  ∃u:Nat→Value,(∀w':World,w'.heap=w.heap→(Builtin.firstCells size xs.length v).run P w' = .ok (((List.range (xs.length*size)).map u).toArray) w') ∧
   (∀(i:Nat) (y:AVal) (k:Nat) (c:AVal),xs[i]?=some y→y.cells[k]?=some c→RepP w saf c (u (i*size+k))) ∧
   ∀b,(∃n cap,v = .slice (some ⟨b,0,none⟩) n cap)→∀p,p<xs.length*size→w.cell? ⟨b,p,none⟩=some (u p):=by
 obtain ⟨A,cap,b,off,sz,vs,hv,hc,ha,hz,hs,hr⟩:=hx.slice_inv
 by_cases hne:xs=[]
 ·subst hne
  refine ⟨vs,fun w' _=>?_,fun i y k c h=>by simp at h,fun b _ p hp=>by simp at hp⟩
  rw [hv]
  cases A with
  |none=>simp [Builtin.firstCells]
  |some ad=>simp [Builtin.firstCells,loadCells,loadCellsFrom]
 ·have hsz:sz=size:=by
   obtain ⟨y,r,rfl⟩:=List.exists_cons_of_ne_nil hne
   rw [←hz y (by simp),hw y (by simp)]
  subst hsz
  have hA:=ha hne
  subst hA
  have hcell:∀p,p<xs.length*sz→w.cell? ⟨b,off+p,none⟩=some (vs p):=by
   intro p hp
   have hd:p / sz<xs.length:=(Nat.div_lt_iff_lt_mul hpos).2 hp
   have hm:p % sz<sz:=Nat.mod_lt _ hpos
   have hy:=List.getElem?_eq_getElem hd
   have hcl:=hw _ (List.getElem_mem hd)
   have:=(hs (p / sz) _ (p % sz) _ hy (List.getElem?_eq_getElem (by omega))).1
   rw [Nat.div_add_mod'] at this
   exact this
  refine ⟨vs,fun w' hw'=>?_,hr,fun b' hb' p hp=>?_⟩
  ·rw [hv]
   have hc':∀p,p<xs.length*sz→w'.cell? ⟨b,off+p,none⟩=some (vs p):=fun p hp=>by
    have:=hcell p hp
    simp only [World.cell?,hw'] at this ⊢
    exact this
   exact load_run (P:=P) b off (xs.length*sz) vs hc'
  ·obtain ⟨n,cap',e⟩:=hb'
   rw [hv] at e
   injection e with e
   injection e with e
   injection e with e1 e2
   subst e1; subst e2
   simpa using hcell p hp
theorem RepP.join {w':World} {saf':Nat→Nat→Prop} {xs ys:List AVal} {size:Nat} (hwx:wid xs size) (hwy:wid ys size) (hpos:0<size) {ux uy:Nat→Value}
  (hx:∀(i:Nat) (y:AVal) (k:Nat) (c:AVal),xs[i]?=some y→y.cells[k]?=some c→RepP w' saf' c (ux (i*size+k)))
  (hy:∀(i:Nat) (y:AVal) (k:Nat) (c:AVal),ys[i]?=some y→y.cells[k]?=some c→RepP w' saf' c (uy (i*size+k)))
  {b:Nat} {arr:Array Value} {t:TypeId} (harr:w'.heap[b]?=some (.cells arr t (0,0))) (h1:∀p,p<xs.length*size→arr[p]?=some (ux p)) (h2:∀p,p<ys.length*size→arr[xs.length*size+p]?=some (uy p))
  (hs:∀p,p<(xs.length+ys.length)*size→saf' b p) {cap:Nat} (hc:xs.length+ys.length≤cap):RepP w' saf' (.slice .sh (xs++ys)) (.slice (some ⟨b,0,none⟩) (xs.length+ys.length) cap):=by
 have hlt:∀(i k n:Nat),i<n→k<size→i*size+k<n*size:=by
  intro i k n hi hk
  have:(i+1)*size≤n*size:=Nat.mul_le_mul_right _ hi
  rw [Nat.succ_mul] at this
  omega
 have cas:∀(i:Nat) (y:AVal),(xs++ys)[i]?=some y→(i<xs.length∧xs[i]?=some y)∨(∃i',i=xs.length+i'∧ys[i']?=some y):=by
  intro i y h
  rcases Nat.lt_or_ge i xs.length with hi|hi
  ·rw [List.getElem?_append_left hi] at h; exact .inl ⟨hi,h⟩
  ·rw [List.getElem?_append_right hi] at h; exact .inr ⟨i-xs.length,by omega,h⟩
 refine .slice _ _ _ _ b 0 size (fun p=>if p<xs.length*size then ux p else uy (p-xs.length*size)) (by simp) hc (fun _=>rfl) (fun y hy'=>?_) (fun i y k c hi hk=>?_) (fun i y k c hi hk=>?_)
 ·rcases List.mem_append.1 hy' with h|h
  ·exact hwx y h
  ·exact hwy y h
 ·have hkl:=lt_of_some hk
  rw [Nat.zero_add]
  rcases cas i y hi with ⟨hil,hxi⟩|⟨i',rfl,hyi⟩
  ·have hk':k<size:=by rw [←hwx y (List.mem_of_getElem? hxi)]; exact hkl
   have hp:=hlt i k _ hil hk'
   refine ⟨?_,hs _ (hlt i k _ (by omega) hk')⟩
   rw [if_pos hp,←h1 _ hp]
   simp [World.cell?,harr]
  ·have hk':k<size:=by rw [←hwy y (List.mem_of_getElem? hyi)]; exact hkl
   have hil:=lt_of_some hyi
   have hp:=hlt i' k _ hil hk'
   refine ⟨?_,hs _ (hlt _ k _ (by omega) hk')⟩
   have he:(xs.length+i')*size+k=xs.length*size+(i'*size+k):=by rw [Nat.add_mul]; omega
   rw [he,if_neg (by omega),Nat.add_sub_cancel_left,←h2 _ hp]
   simp [World.cell?,harr]
 ·have hkl:=lt_of_some hk
  rcases cas i y hi with ⟨hil,hxi⟩|⟨i',rfl,hyi⟩
  ·have hk':k<size:=by rw [←hwx y (List.mem_of_getElem? hxi)]; exact hkl
   rw [if_pos (hlt i k _ hil hk')]
   exact hx i y k c hxi hk
  ·have he:(xs.length+i')*size+k=xs.length*size+(i'*size+k):=by rw [Nat.add_mul]; omega
   rw [he,if_neg (by omega),Nat.add_sub_cancel_left]
   exact hy i' y k c hyi hk
theorem append_run {t t' e:TypeId} {d':TypeDesc} {v':Value} {i:TypeInfo} {zv:Value} (hs:P.underlying t=some (.slice e)) (hs':P.underlying t'=some d') (hd':∀k,d' ≠ .int k) (hi:P.info? e=some i) (hz:i.zero=some zv) (hb0:0<i.bytes) (hb1:i.bytes≤2 ^ 20)
  (ty:TypeId) {base:Option Addr} {n cap m:Nat} {old new:Array Value} (hlen:∀w':World,(Builtin.lenOf v').run P w' = .ok m w')
  (hold:∀w':World,w'.heap=w.heap→(Builtin.firstCells i.size n (.slice base n cap)).run P w' = .ok old w') (hnew:∀w':World,w'.heap=w.heap→(Builtin.firstCells i.size m v').run P w' = .ok new w')
  (hroom:(n+m)*i.bytes≤2 ^ 44) :
  (n+m≤cap→∀w',(match base with|some ad=>(storeCells (ad.add (n*i.size)) new.toList).run P w = .ok () w'|none=>w'=w)→(Builtin.append_ #[t,t'] ty #[.slice base n cap,v']).run P w = .ok (.slice base (n+m) cap) w') ∧
  (cap<n+m→∃newCap rest,n+m≤newCap∧rest.size=(newCap-(n+m))*zv.cells.size ∧
   (Builtin.append_ #[t,t'] ty #[.slice base n cap,v']).run P w = .ok (.slice (some ⟨w.heap.size,0,none⟩) (n+m) newCap) { w with heap:=w.heap.push (.cells (old++new++rest) e (0,0)),drawn:=w.drawn+1 }):=by
 have hsz:(sizeOf e).run P w = .ok i.size w:=run_size (by simp [szOf,hi])
 refine ⟨fun hle w' hst=>?_,fun hlt=>?_⟩
 ·have h1:=hnew w rfl
  unfold Builtin.append_
  simp only [List.getElem?_toArray,List.getElem?_cons_zero,List.getElem?_cons_succ,Sem.run_bind,run_und hs,run_und hs',Result.andThen_ok,hsz,Sem.run_pure]
  simp only [Bool.false_eq_true,if_false,hlen,Result.andThen_ok,Bool.not_false,if_true,if_pos hle,h1,Sem.run_bind,Sem.run_pure]
  cases base with
  |none=>simp only at hst; subst hst; simp
  |some ad=>simp only at hst; simp [hst]
 ·have hcapb:¬Builtin.nextslicecap (n+m) cap*i.bytes>2 ^ 48:=by
   have h1:=nextcap_le hlt
   have h2:Builtin.nextslicecap (n+m) cap*i.bytes≤(2*(n+m)+1000)*i.bytes:=Nat.mul_le_mul_right _ h1
   have h3:(2*(n+m)+1000)*i.bytes=2*((n+m)*i.bytes)+1000*i.bytes:=by
    rw [Nat.add_mul,Nat.mul_assoc]
   have h4:1000*i.bytes≤1000*2 ^ 20:=Nat.mul_le_mul_left _ hb1
   have:(2:Nat) ^ 48=16*2 ^ 44:=by decide
   have:1000*2 ^ 20≤2 ^ 44:=by decide
   omega
  let q:Question := .appendCap (n+m) cap e
  refine ⟨q.cut (w.tape w.drawn q),Builtin.zeroCells zv.cells (q.cut (w.tape w.drawn q)-(n+m)),by simp [q,Question.cut],by simp [Builtin.zeroCells],?_⟩
  have h1:=hold w.drew rfl
  have h2:=hnew w.drew rfl
  have hne:i.bytes≠0:=by omega
  have hqf:q.forced=false:=rfl
  unfold Builtin.append_
  simp only [List.getElem?_toArray,List.getElem?_cons_zero,List.getElem?_cons_succ,Sem.run_bind,run_und hs,run_und hs',Result.andThen_ok,hsz,Sem.run_pure]
  simp only [Bool.false_eq_true,if_false,hlen,Result.andThen_ok,Bool.not_false,if_true,if_neg (Nat.not_le.2 hlt),Sem.run_bind,Sem.run_pure]
  simp [run_info hi,hne,hcapb,h1,h2,zeroValue,hz,newRow,q,Question.forced]
  rfl
theorem append_core (hr:Rel j M w) {c:Call} {y y':Operand} {t t' e:TypeId} {d':TypeDesc} {i:TypeInfo} {zv:Value} (hop:o.op = .call c) (hb:c.callee = .builtin .append) (ha:c.args.toList=[y,y'])
  (hat:c.argTypes = #[t,t']) (hs:P.underlying t=some (.slice e)) (hs':P.underlying t'=some d') (hd':∀k,d' ≠ .int k) (hi:P.info? e=some i) (hz:i.zero=some zv) (hzs:zv.cells.size=i.size) (hpos:0<i.size) (hb0:0<i.bytes) (hb1:i.bytes≤2 ^ 20)
  {tk:Tk} {xs ys:List AVal} (r1:Rep j M w (.slice tk xs) (a.eval y)) (hlen:∀w':World,(Builtin.lenOf (a.eval y')).run P w' = .ok ys.length w') {uy:Nat→Value}
  (fy1:∀w':World,w'.heap=w.heap→(Builtin.firstCells i.size ys.length (a.eval y')).run P w' = .ok (((List.range (ys.length*i.size)).map uy).toArray) w')
  (fy2:∀(q:Nat) (y:AVal) (k:Nat) (c:AVal),ys[q]?=some y→y.cells[k]?=some c→RepP w (Saf j M w) c (uy (q*i.size+k)))
  (h:owhen (roomOk (xs.length+ys.length) i.bytes∧wid xs i.size∧wid ys i.size) (
    match tk with
    | .c0=>match xs with|[]=>some (.slice (.own M.length) ys,M++[.tick i.size ys.length])|_=>none
    | .own k=>match nth M k with
     |some (.tick sz' n)=>owhen (sz'=i.size∧n=xs.length) (some (.slice (.own k) (xs++ys),setN M k (.tick i.size (xs.length+ys.length))))
     |_=>none
    | .sh=>none)=some x):∃v w' j',Ran P o a w v w'∧Rel j' x.2 w'∧Ext j M w j' x.2 w'∧Rep j' x.2 w' x.1 v∧(ys=[]→v=a.eval y∧∀k,tk = .own k→j'=j)∧∀k b',tk = .own k→j' k=some b'→j k=some b'∨∃vs,w'.heap[b']?=some (.cells vs e (0,0)):=by
 obtain ⟨⟨hroom,hwx,hwy⟩,h9⟩:=owhen_inv h
 clear h
 have h:=h9
 clear h9
 have p1:=r1.slice_inv
 obtain ⟨ux,fx1,fx2,fx3⟩:=first_run (P:=P) p1 hwx hpos
 obtain ⟨base,cap,_,_,_,_,hv,hcap,_⟩:=p1.slice_inv
 have ha':c.args = #[y,y']:=by rw [←ha]
 have hexec:∀r,(Builtin.append_ #[t,t'] o.type #[a.eval y,a.eval y']).run P w=r→(execOp a.eval o).run P w=r.andThen fun v w' => .ok (.value v) w':=by
  intro r hr'
  simp [execOp,hop,resolve,hb,invoke,builtin,ha',hat,hr']
 rw [hv] at fx1
 obtain ⟨A1,A2⟩:=append_run (P:=P) (w:=w) hs hs' hd' hi hz hb0 hb1 o.type (base:=base) (n:=xs.length) (cap:=cap) (m:=ys.length) hlen fx1 fy1 hroom
 rw [←hv] at A1 A2
 -- nothing is appended
 have nil:ys=[]→∃v,(execOp a.eval o).run P w = .ok (.value v) w∧v=a.eval y:=by
  intro hy
  subst hy
  refine ⟨_,?_,rfl⟩
  have:=A1 (by simp; exact hcap) w (by
   cases base with
   |none=>rfl
   |some ad=>simp [storeCells])
  rw [hexec _ this]
  simp [hv]
 -- a new block
 have fresh:cap<xs.length+ys.length→∃newCap arr w',xs.length+ys.length≤newCap∧(execOp a.eval o).run P w = .ok (.value (.slice (some ⟨w.heap.size,0,none⟩) (xs.length+ys.length) newCap)) w' ∧
   Quiet w w'∧(∀b,b<w.heap.size→w'.heap[b]?=w.heap[b]?)∧w'.heap[w.heap.size]?=some (.cells arr e (0,0))∧newCap*i.size≤arr.size ∧
   (∀p,p<xs.length*i.size→arr[p]?=some (ux p))∧∀p,p<ys.length*i.size→arr[xs.length*i.size+p]?=some (uy p):=by
  intro hlt
  obtain ⟨newCap,rest,h1,h2,h3⟩:=A2 hlt
  obtain ⟨q,hbk,hnew⟩:=push_grow (w:=w) (.cells (((List.range (xs.length*i.size)).map ux).toArray++((List.range (ys.length*i.size)).map uy).toArray++rest) e (0,0))
  refine ⟨newCap,_,{ w with heap:=w.heap.push (.cells (((List.range (xs.length*i.size)).map ux).toArray++((List.range (ys.length*i.size)).map uy).toArray++rest) e (0,0)),drawn:=w.drawn+1 },h1,(hexec _ h3).trans rfl,⟨q.size,rfl,rfl,rfl⟩,hbk,hnew,?_,fun p hp=>?_,fun p hp=>?_⟩
  ·simp only [Array.size_append,List.size_toArray,List.length_map,List.length_range,h2,hzs]
   rw [←Nat.add_mul,←Nat.add_mul]
   exact Nat.mul_le_mul_right _ (by omega)
  ·rw [Array.append_assoc,Array.getElem?_append_left (by simpa using hp)]
   simp [hp]
  ·rw [Array.append_assoc,Array.getElem?_append_right (by simp),Array.getElem?_append_left (by simp; omega)]
   simp [hp]
 split at h
 ·-- c0
  split at h
  ·injection h with h; subst h
   simp only [List.length_nil,Nat.zero_add] at *
   have hc0:cap=0:=by
    obtain ⟨A',hA'⟩:=r1.c0_inv
    rw [hv] at hA'
    injection hA'
   by_cases hy:ys=[]
   ·subst hy
    obtain ⟨v,h1,h2⟩:=nil rfl
    have q:Quiet w w:=⟨Nat.le_refl _,rfl,rfl,rfl⟩
    refine ⟨v,w,upd j M.length none,.inl h1,hr.push (ob:=none) (fun b h=>by cases h) q (fun _ _=>rfl) (fun h=>by cases h) (fun sz n b h h'=>by cases h'),Ext.push (fun b h=>by cases h) q (fun _ _=>rfl),?_,fun _=>⟨h2,fun _ h=>by cases h⟩,fun _ _ h=>by cases h⟩
    rw [h2,hv,hc0]
    exact .own (sz:=i.size) (n:=0) (by simp) (by simp) (RepP.nil _ _ _) fun _ => .inl ⟨by simp [upd],rfl,base,rfl⟩
   ·have hyl:0<ys.length:=List.length_pos_iff.2 hy
    obtain ⟨newCap,arr,w',g1,g2,g3,g4,g5,g6,g7,g8⟩:=fresh (by omega)
    have hob:∀b,some w.heap.size=some b→w.heap.size≤b∧b<w'.heap.size:=fun b hb=>by
     injection hb with hb; subst hb; exact ⟨Nat.le_refl _,lt_of_block g5⟩
    have ext:Ext j M w (upd j M.length (some w.heap.size)) (M++[.tick i.size ys.length]) w':=Ext.push (fun b hb=>(hob b hb).1) g3 g4
    refine ⟨_,w',upd j M.length (some w.heap.size),.inl g2,hr.push hob g3 g4 (fun h=>by cases h) (fun sz n b _ hb=>by injection hb with hb; subst hb; exact ⟨arr,e,g5⟩),ext,?_,fun h=>absurd h hy,fun _ _ h=>by cases h⟩
    have hsaf:∀p,p<(0+ys.length)*i.size→Saf (upd j M.length (some w.heap.size)) (M++[.tick i.size ys.length]) w' w.heap.size p:=by
     intro p hp
     refine ⟨lt_of_block g5,fun id hid hj=>?_,fun hx=>absurd (hr.xlt _ _ hx) (Nat.lt_irrefl _)⟩
     by_cases hid':id=M.length
     ·subst hid'; exact ⟨i.size,ys.length,by simp,by simpa using hp⟩
     ·have:=hr.lt id w.heap.size (by simp at hid; omega) (by simpa [upd,hid'] using hj)
      omega
    have hj:=RepP.join (xs:=[]) (ys:=ys) (w':=w') hwx hwy hpos (ux:=ux) (uy:=uy) (fun i y k c h=>by simp at h) (fun i y k c h1 h2=>(fy2 i y k c h1 h2).mono ext.saf) g5 (fun p hp=>by simp at hp) (fun p hp=>by simpa using g8 p hp) hsaf (cap:=newCap) (by simpa using g1)
    simp only [List.nil_append,List.length_nil,Nat.zero_add] at hj
    exact .own (sz:=i.size) (n:=ys.length) (by simp) (Nat.le_refl _) hj fun _ => .inr ⟨w.heap.size,newCap,arr,e,by simp [upd],rfl,g5,g6,g1⟩
  ·cases h
 ·-- own
  rename_i k
  rw [nth_eq] at h
  split at h
  ·rename_i sz' n' hMk
   obtain ⟨⟨e1,e2⟩,hx⟩:=owhen_inv h
   subst e1
   subst e2
   injection hx with hx
   subst hx
   rw [setN_eq]
   obtain ⟨sz0,n0,hk,hn,hrp,ht⟩:=r1.own_inv
   ·rw [hMk] at hk
    injection hk with hk; injection hk with e1 e2
    subst e1; subst e2
    by_cases hy:ys=[]
    ·subst hy
     obtain ⟨v,h1,h2⟩:=nil rfl
     have hset:M.set k (.tick i.size (xs.length+([]:List AVal).length))=M:=by
      apply List.ext_getElem?
      intro q
      by_cases hq:k=q
      ·subst hq; rw [set_same (lt_of_some hMk),hMk]; rfl
      ·rw [set_other hq]
     rw [h2] at h1
     rw [hset,List.append_nil]
     exact ⟨a.eval y,w,j,.inl h1,hr,Ext.refl j M w,r1,fun _=>⟨rfl,fun _ _=>rfl⟩,fun _ _ _ h => .inl h⟩
    ·have hyl:0<ys.length:=List.length_pos_iff.2 hy
     have moved:cap<xs.length+ys.length→∃v w' j',Ran P o a w v w'∧Rel j' (M.set k (.tick i.size (xs.length+ys.length))) w'∧Ext j M w j' (M.set k (.tick i.size (xs.length+ys.length))) w'∧Rep j' (M.set k (.tick i.size (xs.length+ys.length))) w' (.slice (.own k) (xs++ys)) v∧(ys=[]→v=a.eval y∧∀k',Tk.own k = .own k'→j'=j)∧∀k' b',Tk.own k = .own k'→j' k'=some b'→j k'=some b'∨∃vs,w'.heap[b']?=some (.cells vs e (0,0)):=by
      intro hlt
      obtain ⟨newCap,arr,w',g1,g2,g3,g4,g5,g6,g7,g8⟩:=fresh hlt
      have ext:Ext j M w (upd j k (some w.heap.size)) (M.set k (.tick i.size (xs.length+ys.length))) w':=Ext.tickNew hMk g3 g4 (Nat.le_refl _) (by omega)
      refine ⟨_,w',upd j k (some w.heap.size),.inl g2,Rel.tickNew hMk hr g3 g4 (Nat.le_refl _) g5 (by omega),ext,?_,fun h=>absurd h hy,fun k' b' hk' hb' => .inr ⟨arr,(by injection hk' with hk'; subst hk'; have h0:w.heap.size=b':=(by simpa [upd] using hb'); subst h0; exact g5)⟩⟩
      have hsaf:∀p,p<(xs.length+ys.length)*i.size→Saf (upd j k (some w.heap.size)) (M.set k (.tick i.size (xs.length+ys.length))) w' w.heap.size p:=by
       intro p hp
       refine ⟨lt_of_block g5,fun id hid hj=>?_,fun hx=>absurd (hr.xlt _ _ hx) (Nat.lt_irrefl _)⟩
       by_cases hid':id=k
       ·subst hid'; exact ⟨i.size,_,set_same (lt_of_some hMk),hp⟩
       ·have:=hr.lt id w.heap.size (by simpa using hid) (by simpa [upd,hid'] using hj)
        omega
      have hj:=RepP.join (w':=w') hwx hwy hpos (ux:=ux) (uy:=uy) (fun i y k c h1 h2=>(fx2 i y k c h1 h2).mono ext.saf) (fun i y k c h1 h2=>(fy2 i y k c h1 h2).mono ext.saf) g5 g7 g8 hsaf (cap:=newCap) g1
      exact .own (sz:=i.size) (n:=xs.length+ys.length) (set_same (lt_of_some hMk)) (by simp) hj fun _ => .inr ⟨w.heap.size,newCap,arr,e,by simp [upd],rfl,g5,g6,g1⟩
     rcases ht rfl with ⟨_,hn0,A',hA'⟩|⟨b,cap0,vs,t0,hj,hv0,hw0,hsz0,hcap0⟩
     ·rw [hv] at hA'
      injection hA' with _ _ e3
      exact moved (by omega)
     ·have hvv:=hv.symm.trans hv0
      injection hvv with e1 e2 e3
      subst e1; subst e3
      by_cases hfit:xs.length+ys.length≤cap
      ·have hnew:(((List.range (ys.length*i.size)).map uy).toArray).toList.length=ys.length*i.size:=by simp
       have hle:xs.length*i.size+ys.length*i.size≤vs.size:=by
        rw [←Nat.add_mul]
        exact Nat.le_trans (Nat.mul_le_mul_right _ hfit) hsz0
       have hone:∀v,v∈(((List.range (ys.length*i.size)).map uy).toArray).toList→v.oneCell'=true:=by
        intro v hv
        simp only [List.mem_map,List.mem_range] at hv
        obtain ⟨p,hp,rfl⟩:=hv
        have hd:p / i.size<ys.length:=(Nat.div_lt_iff_lt_mul hpos).2 hp
        have hm:p % i.size<i.size:=Nat.mod_lt _ hpos
        have hcl:=hwy _ (List.getElem_mem hd)
        have:=fy2 (p / i.size) _ (p % i.size) _ (List.getElem?_eq_getElem hd) (List.getElem?_eq_getElem (by omega))
        rw [Nat.div_add_mod'] at this
        exact this.one
       have hst:=storeFrom_run (P:=P) (((List.range (ys.length*i.size)).map uy).toArray).toList w (xs.length*i.size) 0 vs hw0 (by rw [hnew]; omega) hone
       rw [Nat.add_zero] at hst
       obtain ⟨s1,s2,s3,s4,s5,vs',s6,s7,s8,s9⟩:=setL_spec (((List.range (ys.length*i.size)).map uy).toArray).toList w (xs.length*i.size) vs hw0 (by rw [hnew]; omega)
       have hrun:=A1 hfit _ (by
        show (storeCells ((⟨b,0,none⟩:Addr).add (xs.length*i.size)) _).run P w=_
        rw [addr_add,Nat.zero_add]
        exact hst)
       have q:Quiet w (setL w b (xs.length*i.size) (((List.range (ys.length*i.size)).map uy).toArray).toList):=⟨by omega,s2,s3,s4⟩
       have hkeep:∀p,p<xs.length*i.size→vs'[p]?=vs[p]?:=fun p hp=>s8 p (.inl hp)
       have ext:Ext j M w j (M.set k (.tick i.size (xs.length+ys.length))) (setL w b (xs.length*i.size) (((List.range (ys.length*i.size)).map uy).toArray).toList) :=
        Ext.tickIn hMk hj hr q (fun b' hb' _=>s5 b' hb') hw0 s6 s7 hkeep (by omega)
       refine ⟨_,_,j,.inl ((hexec _ hrun).trans rfl),Rel.tickIn hMk hj hr q (fun b' hb' _=>s5 b' hb') hw0 s6 s7 hkeep (by omega),ext,?_,fun h=>absurd h hy,fun _ _ _ h => .inl h⟩
       have hsaf:∀p,p<(xs.length+ys.length)*i.size→Saf j (M.set k (.tick i.size (xs.length+ys.length))) (setL w b (xs.length*i.size) (((List.range (ys.length*i.size)).map uy).toArray).toList) b p:=by
        intro p hp
        refine ⟨lt_of_block s6,fun id hid hj'=>?_,hr.xdis k b (lt_of_some hMk) hj p⟩
        have:id=k:=hr.inj id k b (by simpa using hid) (lt_of_some hMk) hj' hj
        subst this
        exact ⟨i.size,_,set_same (lt_of_some hMk),hp⟩
       have hjn:=RepP.join hwx hwy hpos (ux:=ux) (uy:=uy) (fun i y k c h1 h2=>(fx2 i y k c h1 h2).mono ext.saf) (fun i y k c h1 h2=>(fy2 i y k c h1 h2).mono ext.saf) s6 (fun p hp=>by
        rw [hkeep p hp]
        have:=fx3 b ⟨_,_,hv⟩ p hp
        simpa [World.cell?,hw0] using this) (fun p hp=>by
        rw [s9 p (by rw [hnew]; exact hp)]
        simp [hp]) hsaf (cap:=cap) hfit
       exact .own (sz:=i.size) (n:=xs.length+ys.length) (set_same (lt_of_some hMk)) (by simp) hjn fun _ => .inr ⟨b,cap,vs',t0,hj,rfl,s6,by omega,hfit⟩
      ·exact moved (by omega)
  ·cases h
 ·cases h
theorem op_append (hr:Rel j M w) (he:EnvRep j M w env a) {c:Call} {y y':Operand} {z z':Opd} {t t' e e':TypeId} {i:TypeInfo} {zv:Value} (hop:o.op = .call c) (hb:c.callee = .builtin .append) (ha:c.args.toList=[y,y'])
  (hat:c.argTypes = #[t,t']) (hs:P.underlying t=some (.slice e)) (hs':P.underlying t'=some (.slice e')) (hi:P.info? e=some i) (hz:i.zero=some zv) (hzs:zv.cells.size=i.size) (hpos:0<i.size) (hb0:0<i.bytes) (hb1:i.bytes≤2 ^ 20)
  (hzy:cOpd y=some z) (hzy':cOpd y'=some z') (h:aop C env M (.append i.size i.bytes z z')=some x):∃v w',Ran P o a w v w'∧OpOk j M w x v w':=by
 simp only [aop] at h
 have r1:=opd_rep he hzy
 have r2:=opd_rep he hzy'
 split at h
 ·rename_i tk xs tk' ys ez ez'
  obtain ⟨⟨_,hwx,hwy⟩,_⟩:=owhen_inv h
  rw [ez] at r1
  rw [ez'] at r2
  have p2:=r2.slice_inv
  obtain ⟨uy,fy1,fy2,_⟩:=first_run (P:=P) p2 hwy hpos
  obtain ⟨A,cap',_,_,_,_,hv',_⟩:=p2.slice_inv
  obtain ⟨v,w',j',q1,q2,q3,q4,_⟩:=append_core hr hop hb ha hat hs hs' (fun k h=>by cases h) hi hz hzs hpos hb0 hb1 r1 (fun w'=>by rw [hv']; rfl) fy1 fy2 h
  exact ⟨v,w',q1,j',q2,q3,q4⟩
 ·cases h
end
end Go.Abs
namespace Go.Abs
open Go Go.RowKit
variable [Globs]
section
variable {P:Program} {C:CallF} {o:Oper} {env:Env} {M:AMem} {j:J} {w:World} {a:Act} {x:AVal×AMem}
theorem fk_inv {f:Field} {k:FK} (h:fkOf P f=some k):f.name ≠ "_" ∧ aggQ P f.type=some false∧(match k with | .b=>P.underlying f.type=some .bool | .i=>∃q,P.underlying f.type=some (.int q) | .s=>P.underlying f.type=some .string):=by
 unfold fkOf at h
 split at h
 ·cases h
 ·rename_i hn
  refine ⟨hn,?_⟩
  split at h<;>first
   |(injection h with h; subst h; rename_i hu; exact ⟨by simp [aggQ,hu],by first|exact hu|exact ⟨_,hu⟩⟩)
   |cases h
theorem eqCell_run {d:Nat} {f:Field} {k:FK} (hf:fkOf P f=some k) {y z:AVal} {u v:Value} (hu:Rep j M w y u) (hv:Rep j M w z v) {e:Bool} (h:eqCell k y z=some e) :
  (Op.equalIn (d+1) f.type u v).run P w = .ok e w:=by
 have hk:=(fk_inv hf).2.2
 unfold eqCell at h
 split at h
 ·rename_i k1 a k2 b
  obtain ⟨q,hq⟩:=hk
  split at h
  ·rename_i he
   subst he
   injection h with h; subst h
   rw [hu.int_inv,hv.int_inv]
   exact run_equalIn_int w d f.type _ _ a b hq
  ·cases h
 ·rename_i a b
  injection h with h; subst h
  rw [hu.str_inv,hv.str_inv,run_equalIn_string w d f.type _ _ hk,bs_toList,bs_toList]
 ·rename_i a b
  injection h with h; subst h
  rw [hu.bool_inv,hv.bool_inv]
  exact run_equalIn_bool' w d f.type a b hk
 ·cases h
theorem eqFields_run {d:Nat} {cs ds:List AVal} {us vs:Array Value} (hc:RC j M w cs us) (hd:RC j M w ds vs):∀ {l:List Field} {k:Nat} {ks:List FK} {e:Bool},fksOf P k l=some ks→eqCells ks (cs.drop k) (ds.drop k)=some e →
  (Op.eqFields (d+1) us vs l).run P w = .ok e w
 | [],k,ks,e,h1,h2=>by
  simp [fksOf] at h1; subst h1
  unfold eqCells at h2
  split at h2<;>simp_all [Op.eqFields]
 |f::r,k,ks,e,h1,h2=>by
  simp only [fksOf] at h1
  split at h1
  ·rename_i hoff
   obtain ⟨q,hq,h1⟩:=bind_inv h1
   obtain ⟨qs,hqs,h1⟩:=bind_inv h1
   injection h1 with h1; subst h1
   have hk1:k<cs.length:=by
    rcases Nat.lt_or_ge k cs.length with h|h
    ·exact h
    ·rw [List.drop_eq_nil_of_le h] at h2; simp [eqCells] at h2
   have hk2:k<ds.length:=by
    rcases Nat.lt_or_ge k ds.length with h|h
    ·exact h
    ·rw [List.drop_eq_nil_of_le h] at h2
     rw [List.drop_eq_getElem_cons hk1] at h2
     simp [eqCells] at h2
   rw [List.drop_eq_getElem_cons hk1,List.drop_eq_getElem_cons hk2] at h2
   simp only [eqCells] at h2
   obtain ⟨e1,he1,h2⟩:=obind_inv h2
   obtain ⟨e2,he2,h2⟩:=obind_inv h2
   injection h2 with h2; subst h2
   have hlu:k<us.size:=by have:=hc.1; omega
   have hlv:k<vs.size:=by have:=hd.1; omega
   have hu:=Array.getElem?_eq_getElem hlu
   have hv:=Array.getElem?_eq_getElem hlv
   have ih:=eqFields_run (d:=d) hc hd hqs he2
   obtain ⟨hn,hag,_⟩:=fk_inv hq
   have p1:(part f.type us f.offset).run P w = .ok us[k] w:=by simp [part,run_isAgg hag,hoff,hu]
   have p2:(part f.type vs f.offset).run P w = .ok vs[k] w:=by simp [part,run_isAgg hag,hoff,hv]
   have p3:=eqCell_run (d:=d) hq (hc.2 k _ _ (List.getElem?_eq_getElem hk1) hu) (hd.2 k _ _ (List.getElem?_eq_getElem hk2) hv) he1
   simp only [Op.eqFields,if_pos hn,Sem.run_bind,p1,p2,p3,Result.andThen_ok]
   cases e1
   ·simp
   ·simpa using ih
  ·cases h1
theorem fks_und:∀ {l:List Field} {k:Nat} {ks:List FK},fksOf P k l=some ks→∀f,f∈l→∃q,fkOf P f=some q
 | [],_,_,_,f,hf=>by simp at hf
 |g::r,k,ks,h,f,hf=>by
  simp only [fksOf] at h
  split at h
  ·obtain ⟨q,hq,h⟩:=bind_inv h
   obtain ⟨qs,hqs,h⟩:=bind_inv h
   rcases List.mem_cons.1 hf with rfl|hf
   ·exact ⟨q,hq⟩
   ·exact fks_und hqs f hf
  ·cases h
theorem op_eqA (hr:Rel j M w) (he:EnvRep j M w env a) {neg:Bool} {y y':Operand} {z z':Opd} {t t':TypeId} {fs:Array Field} {ks:List FK} (hop:o.op = .binOp (if neg then .neq else .eql) t y y' t') (ht:P.underlying t=some (.struct fs))
  (hst:P.stoodInHeld t=false) (hks:fksOf P 0 fs.toList=some ks) (hz:cOpd y=some z) (hz':cOpd y'=some z') (h:aop C env M (.eqA ks neg z z')=some x):∃v w',Ran P o a w v w'∧OpOk j M w x v w':=by
 simp only [aop] at h
 have h1:=opd_rep he hz
 have h2:=opd_rep he hz'
 split at h
 ·rename_i cs ds ez ez'
  obtain ⟨e,hee,h⟩:=obind_inv h
  injection h with h; subst h
  rw [ez] at h1
  rw [ez'] at h2
  obtain ⟨us,hus,hul,huc⟩:=h1.agg_inv
  obtain ⟨vs,hvs,hvl,hvc⟩:=h2.agg_inv
  have hfs:P.fieldsOf t=fs:=by simp [Program.fieldsOf,ht]
  have heq:(Op.equal t (.agg us) (.agg vs)).run P w = .ok e w:=by
   unfold Op.equal
   rw [show Op.maxDepth=9999+1 from rfl,run_equalIn_struct w 9999 t us vs (by rw [hfs]; exact ht) hst,hfs]
   exact eqFields_run (d:=9998) ⟨hul,huc⟩ ⟨hvl,hvc⟩ hks (by simpa using hee)
  have hgt:P.eqGuardType P.depth t=false:=by
   unfold Program.depth
   rw [show 2*(P.types.size+Made.depth)+2=(2*(P.types.size+Made.depth)+1)+1 from rfl,Program.eqGuardType,ht]
   simp only
   rw [Array.any_eq_false]
   intro i hi
   obtain ⟨q,hq⟩:=fks_und hks fs[i] (by simp)
   have:=(fk_inv hq).2.2
   simp only [Program.eqGuardType]
   cases q<;>simp only at this
   ·obtain ⟨_,hu⟩:=this; simp [hu]
   ·simp [this]
   ·simp [this]
  have hguard:∀op,(eqGuard op t y y' (.agg us) (.agg vs)).run P w = .ok () w:=by
   intro op
   unfold eqGuard
   cases op<;>simp [hgt]
  cases neg
  ·exact ⟨.bool e,w,.inl (by simp [execOp,hop,hus,hvs,hguard,binOp,heq]),.still hr (.plain (.bool _))⟩
  ·exact ⟨.bool (!e),w,.inl (by simp [execOp,hop,hus,hvs,hguard,binOp,heq]),.still hr (.plain (.bool _))⟩
 ·cases h
end
end Go.Abs
namespace Go.Abs
open Go Go.RowKit
variable [Globs]
theorem mem_addAll {x:Nat}:∀(l a:List Nat),x∈addAll a l↔x∈a∨x∈l
 | [],a=>by simp [addAll]
 |y::r,a=>by
  rw [addAll,mem_addAll r]
  by_cases h:a.contains y=true
  ·rw [if_pos h]
   have:y∈a:=by simpa using h
   constructor
   ·rintro (h|h)<;>simp [h]
   ·rintro (h|h)
    ·exact .inl h
    ·rcases List.mem_cons.1 h with rfl|h
     ·exact .inl this
     ·exact .inr h
  ·rw [if_neg h]; simp [or_assoc]
theorem nodup_addAll:∀(l a:List Nat),a.Nodup→(addAll a l).Nodup
 | [],a,h=>h
 |y::r,a,h=>by
  rw [addAll]
  refine nodup_addAll r _ ?_
  split
  ·exact h
  ·rename_i hc
   rw [List.nodup_append]
   exact ⟨h,by simp,fun u hu v hv=>by simp at hv; subst hv; rintro rfl; exact hc (by simpa using hu)⟩
theorem nodup_reach (M:AMem) (l:List Nat):(reach M l).Nodup:=nodup_addAll _ _ (nodup_addAll _ _ (nodup_addAll _ _ (nodup_addAll _ _ List.nodup_nil)))
theorem mem_reach {M:AMem} {l:List Nat} {x:Nat} (h:x∈l):x∈reach M l:=by
 unfold reach reach1
 simp [mem_addAll,h]
theorem mem_idsAt {M:AMem} {x i:Nat} {b:ABox}:∀ {l:List Nat},i∈l→M[i]?=some b→x∈b.ids→x∈idsAt M l
 | [],h,_,_=>by simp at h
 |k::r,h,hb,hx=>by
  rw [idsAt,List.mem_append]
  rcases List.mem_cons.1 h with rfl|h
  ·left; rw [nth_eq,hb]; exact hx
  ·exact .inr (mem_idsAt h hb hx)
theorem closed_of {M:AMem} {ids:List Nat} (h:reach1 M ids=ids) {i x:Nat} {b:ABox} (hi:i∈ids) (hb:M[i]?=some b) (hx:x∈b.ids):x∈ids:=by
 rw [←h,reach1,mem_addAll]
 exact .inr (mem_idsAt hi hb hx)
theorem idxN_get:∀ {ids:List Nat} {x:Nat},x∈ids→ids[idxN ids x]?=some x
 | [],_,h=>by simp at h
 |a::l,x,h=>by
  rw [idxN]
  split
  ·rename_i e; subst e; simp
  ·rename_i e
   rcases List.mem_cons.1 h with rfl|h
   ·exact absurd rfl e
   ·simpa using idxN_get h
theorem idxN_lt {ids:List Nat} {x:Nat} (h:x∈ids):idxN ids x<ids.length:=lt_of_some (idxN_get h)
theorem idxN_of:∀ {ids:List Nat} {i x:Nat},ids.Nodup→ids[i]?=some x→idxN ids x=i
 | [],i,x,_,h=>by simp at h
 |a::l,i,x,hn,h=>by
  rw [idxN]
  have hn':=List.nodup_cons.1 hn
  cases i with
  |zero=>simp at h; rw [if_pos h]
  |succ i =>
   have h':l[i]?=some x:=by simpa using h
   rw [if_neg (by rintro rfl; exact hn'.1 (List.mem_of_getElem? h')),idxN_of hn'.2 h']
theorem atN_idx {ids:List Nat} {x:Nat} (h:x∈ids):atN ids (idxN ids x)=x:=by rw [atN,nth_eq,idxN_get h]; rfl
theorem atN_of {ids:List Nat} {i x:Nat} (h:ids[i]?=some x):atN ids i=x:=by rw [atN,nth_eq,h]; rfl
theorem pickM_spec {M:AMem} {ρ:Nat→Nat}:∀ {l:List Nat} {B:AMem},pickM M ρ l=some B→B.length=l.length∧∀(i id:Nat),l[i]?=some id→∃b,M[id]?=some b∧b.flat=true∧B[i]?=some (b.ren ρ)
 | [],B,h=>by simp [pickM] at h; subst h; exact ⟨rfl,fun i id h=>by simp at h⟩
 |k::r,B,h=>by
  simp only [pickM,nth_eq] at h
  split at h
  ·rename_i b hb
   split at h
   ·rename_i hf
    obtain ⟨l,hl,h⟩:=obind_inv h
    injection h with h; subst h
    obtain ⟨h1,h2⟩:=pickM_spec hl
    refine ⟨by simp [h1],fun i id hi=>?_⟩
    cases i with
    |zero=>simp at hi; subst hi; exact ⟨b,hb,hf,by simp⟩
    |succ i =>
     obtain ⟨b',g1,g2,g3⟩:=h2 i id (by simpa using hi)
     exact ⟨b',g1,g2,by simpa using g3⟩
   ·cases h
  ·cases h
theorem wback_spec {ids:List Nat}:∀ {l:List Nat} {B M:AMem},l.Nodup→l.length=B.length→(wback ids M l B).length=M.length∧(∀i,i∉l→(wback ids M l B)[i]?=M[i]?) ∧
  ∀(i id:Nat) (b:ABox),l[i]?=some id→id<M.length→B[i]?=some b→(wback ids M l B)[id]?=some (b.ren (atN ids))
 | [],B,M,_,_=>by unfold wback; exact ⟨rfl,fun _ _=>rfl,fun i id b h=>by simp at h⟩
 |k::r,[],M,_,hl=>by simp at hl
 |k::r,b::B,M,hn,hl=>by
  rw [wback,setN_eq]
  have hn':=List.nodup_cons.1 hn
  obtain ⟨h1,h2,h3⟩:=wback_spec (ids:=ids) (l:=r) (B:=B) (M:=M.set k (b.ren (atN ids))) hn'.2 (by simpa using hl)
  refine ⟨by rw [h1]; simp,fun i hi=>?_,fun i id b' hi hid hb=>?_⟩
  ·have hk:k≠i:=fun e=>hi (by simp [e])
   rw [h2 i (fun h=>hi (by simp [h])),set_other hk]
  ·cases i with
   |zero =>
    simp at hi hb
    subst hi; subst hb
    rw [h2 k hn'.1,set_same hid]
   |succ i=>exact h3 i id b' (by simpa using hi) (by simpa using hid) (by simpa using hb)
theorem ren_tag (ρ:Nat→Nat) (b:ABox):(b.ren ρ).tag=b.tag:=by cases b<;>rfl
theorem ren_loose {ρ:Nat→Nat} {b:ABox} (h:b.fixed=false):b.ren ρ=b:=by cases b<;>first|rfl|cases h
structure Sub (j:J) (M:AMem) (w:World) (ids:List Nat) (B:AMem):Prop where
 nodup:ids.Nodup
 len:B.length=ids.length
 box:∀(i id:Nat),ids[i]?=some id→∃b,M[id]?=some b∧b.flat=true∧B[i]?=some (b.ren (idxN ids))
 closed:∀(i:Nat) (b:ABox),i∈ids→M[i]?=some b→∀x,x∈b.ids→x∈ids
def down (j:J) (M:AMem) (ids:List Nat):J:=⟨fun i=>match ids[i]? with|some id=>j id|none=>none,fun b off=>j.X b off∨∃id,id<M.length∧id∉ids∧j id=some b∧¬ ∃sz n,M[id]?=some (.tick sz n)∧off<n*sz⟩
section
variable {j:J} {M B:AMem} {w:World} {ids:List Nat}
theorem Sub.at_ (s:Sub j M w ids B) {id:Nat} (h:id∈ids) {b:ABox} (hb:M[id]?=some b):B[idxN ids id]?=some (b.ren (idxN ids)):=by
 obtain ⟨b',h1,_,h2⟩:=s.box _ _ (idxN_get h)
 rw [hb] at h1; injection h1 with h1; subst h1; exact h2
theorem Sub.inv (s:Sub j M w ids B) {i:Nat} {c:ABox} (h:B[i]?=some c):∃id b,ids[i]?=some id∧M[id]?=some b∧b.flat=true∧c=b.ren (idxN ids):=by
 have hi:i<ids.length:=by rw [←s.len]; exact lt_of_some h
 obtain ⟨b,h1,h2,h3⟩:=s.box i _ (List.getElem?_eq_getElem hi)
 rw [h] at h3; injection h3 with h3
 exact ⟨_,b,List.getElem?_eq_getElem hi,h1,h2,h3⟩
theorem down_idx {id:Nat} (h:id∈ids):(down j M ids) (idxN ids id)=j id:=by simp [down,idxN_get h]
theorem down_inv {i b:Nat} (h:(down j M ids) i=some b):∃id,ids[i]?=some id∧j id=some b:=by
 simp only [down] at h
 split at h
 ·exact ⟨_,by assumption,h⟩
 ·cases h
theorem Sub.saf (s:Sub j M w ids B) {b off:Nat} (h:Saf j M w b off):Saf (down j M ids) B w b off:=by
 refine ⟨h.lt,fun i hi hj=>?_,fun hx=>?_⟩
 ·obtain ⟨id,h1,h2⟩:=down_inv hj
  obtain ⟨bx,h3,_,h4⟩:=s.box i id h1
  obtain ⟨sz,n,h5,h6⟩:=h.ids id (lt_of_some h3) h2
  rw [h3] at h5; injection h5 with h5; subst h5
  exact ⟨sz,n,h4,h6⟩
 ·rcases hx with hx|⟨id,h1,_,h2,h3⟩
  ·exact h.nx hx
  ·exact h3 (h.ids id h1 h2)
theorem Sub.rep0 (s:Sub j M w ids B) {x:AVal} {v:Value} (h:Rep j M w x v) (hf:x.flat0=true) (hi:∀i,i∈x.ids0→i∈ids):Rep (down j M ids) B w (x.ren0 (idxN ids)) v:=by
 cases h with
 |plain h =>
  have:x.ren0 (idxN ids)=x:=by cases h<;>rfl
  rw [this]
  exact .plain (h.mono fun b off hs=>⟨s.saf hs,rfl⟩)
 |c0 A=>exact .c0 A
 | @own k xs v sz n hk hn hp ht =>
  have hki:k∈ids:=hi k (by simp [AVal.ids0])
  refine .own (sz:=sz) (n:=n) (s.at_ hki hk) hn (hp.mono fun b off hs=>⟨s.saf hs,rfl⟩) fun he=>?_
  rcases ht he with ⟨g1,g2,g3⟩|⟨b,cap,vs,t,g1,g2,g3,g4,g5⟩
  ·exact .inl ⟨by rw [down_idx hki]; exact g1,g2,g3⟩
  ·exact .inr ⟨b,cap,vs,t,by rw [down_idx hki]; exact g1,g2,g3,g4,g5⟩
 |agg=>cases hf
 |tuple=>cases hf
 | @ptr id off b hid hc hj =>
  have hki:id∈ids:=hi id (by simp [AVal.ids0])
  obtain ⟨cs,hc⟩:=hc
  exact .ptr (by rw [s.len]; exact idxN_lt hki) ⟨_,s.at_ hki hc⟩ (by rw [down_idx hki]; exact hj)
 |rptr h=>exact .rptr fun k c hk=>⟨(h k c hk).1,s.saf (h k c hk).2.1,(h k c hk).2.2.mono fun b off hs=>⟨s.saf hs,rfl⟩⟩
 |func=>cases hf
 | @mref id b hc hj =>
  have hki:id∈ids:=hi id (by simp [AVal.ids0])
  obtain ⟨ks,vs,hc⟩:=hc
  exact .mref ⟨_,_,s.at_ hki hc⟩ (by rw [down_idx hki]; exact hj)
 | @iref id b hc hj =>
  have hki:id∈ids:=hi id (by simp [AVal.ids0])
  obtain ⟨ks,vs,hc⟩:=hc
  exact .iref ⟨_,_,s.at_ hki hc⟩ (by rw [down_idx hki]; exact hj)
 | @bself id t b v hc hj hk hv =>
  have hki:id∈ids:=hi id (by simp [AVal.ids0])
  obtain ⟨cs,hc⟩:=hc
  exact .bself ⟨_,s.at_ hki hc⟩ (by rw [down_idx hki]; exact hj) hk hv
 | @obuf k t n x l v hk hn hp ht =>
  have hki:k∈ids:=hi k (by simp [AVal.ids0])
  refine .obuf (n:=n) (s.at_ hki hk) hn (hp.mono fun b off hs=>⟨s.saf hs,rfl⟩) fun he=>?_
  rcases ht he with ⟨g1,g2,g3⟩|⟨b,cap,vs,g0,g1,g2,g3,g4,g5⟩
  ·exact .inl ⟨by rw [down_idx hki]; exact g1,g2,g3⟩
  ·exact .inr ⟨b,cap,vs,g0,by rw [down_idx hki]; exact g1,g2,g3,g4,g5⟩
 |mfn hl hd=>exact .mfn hl fun i c v h1 h2=>(hd i c v h1 h2).mono fun b off hs=>⟨s.saf hs,rfl⟩
 | @fmap ks vs b es cl hb hfr hx hw hk hv hks hvs =>
  refine .fmap hb (fun i _ he=>?_) (fun off hx'=>?_) hw hk hv (fun i k e h1 h2=>(hks i k e h1 h2).mono fun b off hs=>⟨s.saf hs,rfl⟩) (fun i k e h1 h2=>(hvs i k e h1 h2).mono fun b off hs=>⟨s.saf hs,rfl⟩)
  ·obtain ⟨id,h1,h2⟩:=down_inv he
   obtain ⟨bx,h3,_⟩:=s.box _ _ h1
   exact hfr id (lt_of_some h3) h2
  ·rcases hx' with hx'|⟨id,h1,_,h2,_⟩
   ·exact hx off hx'
   ·exact hfr id h1 h2
 | @aref id ver sz0 lo hi v h0 hid hM hv =>
  have hki:id∈ids:=hi id (by simp [AVal.ids0])
  have hb:=List.getElem?_eq_getElem hid
  have hat:=s.at_ hki hb
  rw [ren_loose (hM _ hb)] at hat
  refine .aref h0 (by rw [s.len]; exact idxN_lt hki) (fun bx hbx=>?_) fun sz v' xs h=>?_
  ·rw [hat] at hbx; exact hM bx (hb.trans hbx)
  ·rw [hat] at h
   obtain ⟨k1,k2⟩:=hv sz v' xs (hb.trans h)
   exact ⟨k1,fun he=>by
    obtain ⟨l0,l1,l2,b,cap,vs,t,l3,r⟩:=k2 he
    exact ⟨l0,l1,l2,b,cap,vs,t,by rw [down_idx hki]; exact l3,r⟩⟩
 | @eptr id ver i off v h0 hid hM hv =>
  have hki:id∈ids:=hi id (by simp [AVal.ids0])
  have hb:=List.getElem?_eq_getElem hid
  have hat:=s.at_ hki hb
  rw [ren_loose (hM _ hb)] at hat
  refine .eptr h0 (by rw [s.len]; exact idxN_lt hki) (fun bx hbx=>?_) fun sz v' xs h=>?_
  ·rw [hat] at hbx; exact hM bx (hb.trans hbx)
  ·rw [hat] at h
   obtain ⟨k1,k2⟩:=hv sz v' xs (hb.trans h)
   exact ⟨k1,fun he=>by
    obtain ⟨l1,b,l3,r⟩:=k2 he
    exact ⟨l1,b,by rw [down_idx hki]; exact l3,r⟩⟩
 |any v=>exact .any v
theorem Sub.rep1 (s:Sub j M w ids B) {x:AVal} {v:Value} (h:Rep j M w x v) (hf:x.flat1=true) (hi:∀i,i∈x.ids1→i∈ids):Rep (down j M ids) B w (x.ren1 (idxN ids)) v:=by
 by_cases hfn:∃f caps,x = .func f caps
 ·obtain ⟨f,caps,rfl⟩:=hfn
  obtain ⟨vs,rfl,hl,hc⟩:=h.func_inv
  refine .func (by simpa using hl) fun i c u hci hu=>?_
  rw [List.getElem?_map,Option.map_eq_some_iff] at hci
  obtain ⟨c0,hc0,rfl⟩:=hci
  have hm:=List.mem_of_getElem? hc0
  exact s.rep0 (hc i c0 u hc0 hu) (List.all_eq_true.1 hf c0 hm) fun q hq=>hi q (List.mem_flatMap.2 ⟨c0,hm,hq⟩)
 ·have e1:x.ren1 (idxN ids)=x.ren0 (idxN ids):=by cases x<;>first|rfl|exact absurd ⟨_,_,rfl⟩ hfn
  have e2:x.ids1=x.ids0:=by cases x<;>first|rfl|exact absurd ⟨_,_,rfl⟩ hfn
  have e3:x.flat0=true:=by cases x<;>first|rfl|exact absurd ⟨_,_,rfl⟩ hfn|cases hf
  rw [e1]
  exact s.rep0 h e3 (by rw [←e2]; exact hi)
theorem Sub.rep (s:Sub j M w ids B) {x:AVal} {v:Value} (h:Rep j M w x v) (hf:x.flat=true) (hi:∀i,i∈x.ids→i∈ids):Rep (down j M ids) B w (x.ren (idxN ids)) v:=by
 by_cases hag:∃cs,x = .agg cs
 ·obtain ⟨cs,rfl⟩:=hag
  obtain ⟨vs,rfl,hl,hc⟩:=h.agg_inv
  refine .agg (by simpa using hl) fun i c u hci hu=>?_
  rw [List.getElem?_map,Option.map_eq_some_iff] at hci
  obtain ⟨c0,hc0,rfl⟩:=hci
  have hm:=List.mem_of_getElem? hc0
  exact s.rep1 (hc i c0 u hc0 hu) (List.all_eq_true.1 hf c0 hm) fun q hq=>hi q (List.mem_flatMap.2 ⟨c0,hm,hq⟩)
 ·have e1:x.ren (idxN ids)=x.ren1 (idxN ids):=by cases x<;>first|rfl|exact absurd ⟨_,rfl⟩ hag
  have e2:x.ids=x.ids1:=by cases x<;>first|rfl|exact absurd ⟨_,rfl⟩ hag
  have e3:x.flat1=true:=by cases x<;>first|exact hf|exact absurd ⟨_,rfl⟩ hag
  rw [e1]
  exact s.rep1 h e3 (by rw [←e2]; exact hi)
theorem Sub.rel (s:Sub j M w ids B) (hr:Rel j M w):Rel (down j M ids) B w:=by
 have lts:∀ {i id:Nat},ids[i]?=some id→id<M.length:=fun h=>by
  obtain ⟨b,h1,_⟩:=s.box _ _ h
  exact lt_of_some h1
 refine ⟨fun i i' b hi hi' h h'=>?_,fun i b hi h=>?_,fun i cb h hf=>?_,fun i sz n b h hj=>?_,fun i sz ver xs h=>?_,fun i b hi h off hx=>?_,fun b off h=>?_⟩
 ·obtain ⟨id,h1,h2⟩:=down_inv h
  obtain ⟨id',h1',h2'⟩:=down_inv h'
  have:=hr.inj id id' b (lts h1) (lts h1') h2 h2'
  subst this
  rw [←idxN_of s.nodup h1,idxN_of s.nodup h1']
 ·obtain ⟨id,h1,h2⟩:=down_inv h
  exact hr.lt id b (lts h1) h2
 ·obtain ⟨id,bx,h1,h2,h3,h4⟩:=s.inv h
  subst h4
  have hfx:bx.fixed=true:=by cases bx<;>first|rfl|cases hf
  obtain ⟨b,g1,g2⟩:=hr.fix id bx h2 hfx
  refine ⟨b,by simp [down,h1,g1],?_⟩
  have hcl:∀p,p∈bx.ids→p∈ids:=s.closed id _ (List.mem_of_getElem? h1) h2
  cases bx with
  |tick sz n=>cases hf
  |cells cs0 =>
   obtain ⟨vs,t,k1,k2,k3⟩:=g2
   refine ⟨vs,t,k1,by simpa using k2,fun q c v hc hv=>?_⟩
   rw [List.getElem?_map,Option.map_eq_some_iff] at hc
   obtain ⟨c0,hc0,rfl⟩:=hc
   have hm:=List.mem_of_getElem? hc0
   exact s.rep1 (k3 q c0 v hc0 hv) (List.all_eq_true.1 h3 c0 hm) fun p hp=>hcl p (List.mem_flatMap.2 ⟨c0,hm,hp⟩)
  |map ks vs =>
   obtain ⟨es,cl,k1,k2,k3,k4,k5⟩:=g2
   refine ⟨es,cl,k1,k2,by simpa using k3,fun q c e hc he=>(k4 q c e hc he).mono fun b off hs=>⟨s.saf hs,rfl⟩,fun q c e hc he=>?_⟩
   rw [List.getElem?_map,Option.map_eq_some_iff] at hc
   obtain ⟨c0,hc0,rfl⟩:=hc
   have hm:=List.mem_of_getElem? hc0
   exact s.rep (k5 q c0 e hc0 he) (List.all_eq_true.1 h3 c0 hm) fun p hp=>hcl p (List.mem_flatMap.2 ⟨c0,hm,hp⟩)
  |siter st pos=>exact g2
  |arr=>cases hf
 ·obtain ⟨id,bx,h1,h2,h3,h4⟩:=s.inv h
  obtain ⟨id',h1',h2'⟩:=down_inv hj
  rw [h1] at h1'; injection h1' with h1'; subst h1'
  cases bx<;>first|cases h4|skip
  exact hr.tick id _ _ b h2 h2'
 ·obtain ⟨id,bx,h1,h2,h3,h4⟩:=s.inv h
  cases bx<;>first|cases h4|skip
  obtain ⟨b,vs,t,g1,g2,g3,g4,g5⟩:=hr.arr id _ _ _ h2
  exact ⟨b,vs,t,by simp [down,h1,g1],g2,g3,g4,fun q x k c hx hk=>(g5 q x k c hx hk).imp fun u hu=>⟨hu.1,hu.2.mono fun b off hs=>⟨s.saf hs,rfl⟩⟩⟩
 ·obtain ⟨id,h1,h2⟩:=down_inv h
  rcases hx with hx|⟨id',g1,g2,g3,_⟩
  ·exact hr.xdis id b (lts h1) h2 off hx
  ·have:=hr.inj id id' b (lts h1) g1 h2 g3
   subst this
   exact g2 (List.mem_of_getElem? h1)
 ·rcases h with h|⟨id,g1,_,g3,_⟩
  ·exact hr.xlt b off h
  ·exact hr.lt id b g1 g3
variable {j2:J} {B':AMem} {w':World}
open Classical in
noncomputable def upJ (j j2:J) (ids:List Nat):J:=⟨fun id=>if id∈ids then j2 (idxN ids id) else j id,j.X⟩
theorem upJ_in {id:Nat} (h:id∈ids):(upJ j j2 ids) id=j2 (idxN ids id):=by simp [upJ,h]
theorem upJ_out {id:Nat} (h:id∉ids):(upJ j j2 ids) id=j id:=by simp [upJ,h]
structure Back (j:J) (M B:AMem) (w:World) (ids:List Nat) (j2:J) (B':AMem) (w':World):Prop where
 sub:Sub j M w ids B
 hr:Rel j M w
 ext:Ext (down j M ids) B w j2 B' w'
 rel:Rel j2 B' w'
 len:B'.length=B.length
 flat:∀b,b∈B'→b.flat=true
variable (bk:Back j M B w ids j2 B' w')
include bk
theorem Back.lts {i id:Nat} (h:ids[i]?=some id):id<M.length:=by
 obtain ⟨b,h1,_⟩:=bk.sub.box _ _ h
 exact lt_of_some h1
theorem Back.in_ {id:Nat} (h:id∈ids) {b:ABox} (hb:B'[idxN ids id]?=some b):(wback ids M ids B')[id]?=some (b.ren (atN ids)) :=
 (wback_spec bk.sub.nodup (by rw [bk.len,bk.sub.len])).2.2 _ id b (idxN_get h) (bk.lts (idxN_get h)) hb
theorem Back.out_ {id:Nat} (h:id∉ids):(wback ids M ids B')[id]?=M[id]?:=(wback_spec bk.sub.nodup (by rw [bk.len,bk.sub.len])).2.1 id h
theorem Back.length_:(wback ids M ids B').length=M.length:=(wback_spec bk.sub.nodup (by rw [bk.len,bk.sub.len])).1
theorem Back.some_ {id:Nat} (h:id∈ids):∃b,B'[idxN ids id]?=some b∧b.flat=true:=by
 have hi:idxN ids id<B'.length:=by rw [bk.len,bk.sub.len]; exact idxN_lt h
 exact ⟨_,List.getElem?_eq_getElem hi,bk.flat _ (List.getElem_mem hi)⟩
theorem Back.old {id b:Nat} (hid:id<M.length) (h:id∉ids) (hj:j id=some b):w'.heap[b]?=w.heap[b]?∧∀i,i<B'.length→j2 i≠some b:=by
 refine bk.ext.old b (bk.hr.lt id b hid hj) fun i hi he=>?_
 obtain ⟨id',h1,h2⟩:=down_inv he
 have:=bk.hr.inj id id' b hid (bk.lts h1) hj h2
 subst this
 exact h (List.mem_of_getElem? h1)
theorem Back.saf {b off:Nat} (h:Saf j2 B' w' b off):Saf (upJ j j2 ids) (wback ids M ids B') w' b off:=by
 have hX:=bk.ext.X
 have hnx:=h.nx
 rw [hX] at hnx
 refine ⟨h.lt,fun id hid hj=>?_,fun hx=>hnx (.inl hx)⟩
 rw [bk.length_] at hid
 by_cases hi:id∈ids
 ·rw [upJ_in hi] at hj
  obtain ⟨sz,n,h1,h2⟩:=h.ids _ (by rw [bk.len,bk.sub.len]; exact idxN_lt hi) hj
  exact ⟨sz,n,bk.in_ hi h1,h2⟩
 ·rw [upJ_out hi] at hj
  rw [bk.out_ hi]
  exact Classical.byContradiction fun hc=>hnx (.inr ⟨id,hid,hi,hj,hc⟩)
theorem Back.ext_:Ext j M w (upJ j j2 ids) (wback ids M ids B') w' where
 len:=by rw [bk.length_]; exact Nat.le_refl _
 size:=bk.ext.size
 os:=bk.ext.os
 tape:=bk.ext.tape
 output:=bk.ext.output
 X:=rfl
 fix:=fun id bx h hf=>by
  by_cases hi:id∈ids
  ·obtain ⟨g1,bx',g2,g3⟩:=bk.ext.fix _ _ (bk.sub.at_ hi h) (by cases bx<;>first|rfl|cases hf)
   rw [upJ_in hi,g1,down_idx hi]
   refine ⟨rfl,_,bk.in_ hi g2,?_⟩
   rw [ren_tag,g3,ren_tag]
  ·rw [upJ_out hi,bk.out_ hi]; exact ⟨rfl,bx,h,rfl⟩
 tick:=fun id sz n h=>by
  by_cases hi:id∈ids
  ·obtain ⟨n',g1,g2,g3⟩:=bk.ext.tick _ _ _ (bk.sub.at_ hi h)
   refine ⟨n',g1,bk.in_ hi g2,fun he=>?_⟩
   obtain ⟨k1,k2⟩:=g3 he
   rw [upJ_in hi,k1,down_idx hi]
   exact ⟨rfl,fun b vs t hb hv=>k2 b vs t (by rw [down_idx hi]; exact hb) hv⟩
  ·rw [upJ_out hi,bk.out_ hi]
   exact ⟨n,Nat.le_refl _,h,fun _=>⟨rfl,fun b vs t hb hv=>⟨vs,(bk.old (lt_of_some h) hi hb).1.trans hv,rfl⟩⟩⟩
 arr:=fun id sz v xs h=>by
  by_cases hi:id∈ids
  ·rcases bk.ext.arr _ _ _ _ (bk.sub.at_ hi h) with ⟨n',g⟩|⟨v',xs',g2,g3,g4⟩
   ·exact .inl ⟨n',bk.in_ hi g⟩
   ·refine .inr ⟨v',xs',bk.in_ hi g2,g3,fun he=>?_⟩
    obtain ⟨k1,k2,k3⟩:=g4 he
    rw [upJ_in hi,k1,down_idx hi]
    exact ⟨rfl,k2,fun b vs t hb hv=>k3 b vs t (by rw [down_idx hi]; exact hb) hv⟩
  ·rw [upJ_out hi,bk.out_ hi]
   exact .inr ⟨v,xs,h,Nat.le_refl _,fun _=>⟨rfl,rfl,fun b vs t hb hv=>⟨vs,(bk.old (lt_of_some h) hi hb).1.trans hv,rfl⟩⟩⟩
 tags:=bk.ext.tags
 saf:=fun b off h=>by
  obtain ⟨h1,h2⟩:=bk.ext.saf b off (bk.sub.saf h)
  exact ⟨bk.saf h1,h2⟩
 old:=fun b hb h=>by
  have h1:∀i,i<B.length→(down j M ids) i≠some b:=fun i _ he=>by
   obtain ⟨id,g1,g2⟩:=down_inv he
   exact h id (bk.lts g1) g2
  obtain ⟨h2,h3⟩:=bk.ext.old b hb h1
  refine ⟨h2,fun id hid he=>?_⟩
  rw [bk.length_] at hid
  by_cases hi:id∈ids
  ·rw [upJ_in hi] at he
   exact h3 _ (by rw [bk.len,bk.sub.len]; exact idxN_lt hi) he
  ·rw [upJ_out hi] at he
   exact h id hid he
theorem Back.at_of {i:Nat} (h:i<B'.length):∃id,ids[i]?=some id∧id∈ids∧atN ids i=id∧idxN ids id=i:=by
 have hi:i<ids.length:=by rw [←bk.sub.len,←bk.len]; exact h
 have hg:=List.getElem?_eq_getElem hi
 exact ⟨_,hg,List.mem_of_getElem? hg,atN_of hg,idxN_of bk.sub.nodup hg⟩
theorem Back.rep0 {x:AVal} {v:Value} (h:Rep j2 B' w' x v) (hf:x.flat0=true):Rep (upJ j j2 ids) (wback ids M ids B') w' (x.ren0 (atN ids)) v:=by
 cases h with
 |plain h =>
  have:x.ren0 (atN ids)=x:=by cases h<;>rfl
  rw [this]
  exact .plain (h.mono fun b off hs=>⟨bk.saf hs,rfl⟩)
 |c0 A=>exact .c0 A
 | @own k xs v sz n hk hn hp ht =>
  obtain ⟨id,g1,g2,g3,g4⟩:=bk.at_of (lt_of_some hk)
  simp only [AVal.ren0,g3]
  refine .own (sz:=sz) (n:=n) (bk.in_ g2 (b := .tick sz n) (by rw [g4]; exact hk)) hn (hp.mono fun b off hs=>⟨bk.saf hs,rfl⟩) fun he=>?_
  rcases ht he with ⟨e1,e2,e3⟩|⟨b,cap,vs,t,e1,e2,e3,e4,e5⟩
  ·exact .inl ⟨by rw [upJ_in g2,g4]; exact e1,e2,e3⟩
  ·exact .inr ⟨b,cap,vs,t,by rw [upJ_in g2,g4]; exact e1,e2,e3,e4,e5⟩
 | @bself k t b v hc hj hk hv =>
  obtain ⟨cs,hc⟩:=hc
  obtain ⟨id,g1,g2,g3,g4⟩:=bk.at_of (lt_of_some hc)
  simp only [AVal.ren0,g3]
  exact .bself ⟨_,bk.in_ g2 (b := .cells cs) (by rw [g4]; exact hc)⟩ (by rw [upJ_in g2,g4]; exact hj) hk hv
 | @obuf k t n x l v hk hn hp ht =>
  obtain ⟨id,g1,g2,g3,g4⟩:=bk.at_of (lt_of_some hk)
  simp only [AVal.ren0,g3]
  refine .obuf (n:=n) (bk.in_ g2 (b := .tick 1 n) (by rw [g4]; exact hk)) hn (hp.mono fun b off hs=>⟨bk.saf hs,rfl⟩) fun he=>?_
  rcases ht he with ⟨e1,e2,e3⟩|⟨b,cap,vs,e0,e1,e2,e3,e4,e5⟩
  ·exact .inl ⟨by rw [upJ_in g2,g4]; exact e1,e2,e3⟩
  ·exact .inr ⟨b,cap,vs,e0,by rw [upJ_in g2,g4]; exact e1,e2,e3,e4,e5⟩
 |agg=>cases hf
 |tuple=>cases hf
 | @ptr k off b hid hc hj =>
  obtain ⟨id,g1,g2,g3,g4⟩:=bk.at_of hid
  obtain ⟨cs,hc⟩:=hc
  simp only [AVal.ren0,g3]
  exact .ptr (by rw [bk.length_]; exact bk.lts g1) ⟨_,bk.in_ g2 (b := .cells cs) (by rw [g4]; exact hc)⟩ (by rw [upJ_in g2,g4]; exact hj)
 |rptr h=>exact .rptr fun k c hk=>⟨(h k c hk).1,bk.saf (h k c hk).2.1,(h k c hk).2.2.mono fun b off hs=>⟨bk.saf hs,rfl⟩⟩
 |func=>cases hf
 | @mref k b hc hj =>
  obtain ⟨ks,vs,hc⟩:=hc
  obtain ⟨id,g1,g2,g3,g4⟩:=bk.at_of (lt_of_some hc)
  simp only [AVal.ren0,g3]
  exact .mref ⟨_,_,bk.in_ g2 (b := .map ks vs) (by rw [g4]; exact hc)⟩ (by rw [upJ_in g2,g4]; exact hj)
 | @iref k b hc hj =>
  obtain ⟨st,p,hc⟩:=hc
  obtain ⟨id,g1,g2,g3,g4⟩:=bk.at_of (lt_of_some hc)
  simp only [AVal.ren0,g3]
  exact .iref ⟨_,_,bk.in_ g2 (b := .siter st p) (by rw [g4]; exact hc)⟩ (by rw [upJ_in g2,g4]; exact hj)
 |mfn hl hd=>exact .mfn hl fun i c v h1 h2=>(hd i c v h1 h2).mono fun b off hs=>⟨bk.saf hs,rfl⟩
 | @fmap ks vs b es cl hb hfr hx hw hk hv hks hvs =>
  rw [bk.ext.X] at hx
  refine .fmap hb (fun id hid he=>?_) (fun off hx'=>hx off (.inl hx')) hw hk hv (fun i k e h1 h2=>(hks i k e h1 h2).mono fun b off hs=>⟨bk.saf hs,rfl⟩) (fun i k e h1 h2=>(hvs i k e h1 h2).mono fun b off hs=>⟨bk.saf hs,rfl⟩)
  rw [bk.length_] at hid
  by_cases m:id∈ids
  ·rw [upJ_in m] at he
   exact hfr _ (by rw [bk.len,bk.sub.len]; exact idxN_lt m) he
  ·rw [upJ_out m] at he
   by_cases ht:∃sz n,M[id]?=some (.tick sz n)
   ·obtain ⟨sz,n,ht⟩:=ht
    refine hx (n*sz) (.inr ⟨id,hid,m,he,?_⟩)
    rintro ⟨sz',n',h1,h2⟩
    rw [ht] at h1; injection h1 with h1; injection h1 with e1 e2
    subst e1; subst e2
    exact Nat.lt_irrefl _ h2
   ·exact hx 0 (.inr ⟨id,hid,m,he,fun ⟨sz,n,h1,_⟩=>ht ⟨sz,n,h1⟩⟩)
 | @aref k ver sz0 lo hi v h0 hid hM hv =>
  obtain ⟨id,g1,g2,g3,g4⟩:=bk.at_of hid
  have hb:=List.getElem?_eq_getElem hid
  have hin:=bk.in_ g2 (b:=B'[k]) (by rw [g4]; exact hb)
  rw [ren_loose (hM _ hb)] at hin
  simp only [AVal.ren0,g3]
  refine .aref h0 (by rw [bk.length_]; exact bk.lts g1) (fun bx hbx=>?_) fun sz v' xs h=>?_
  ·rw [hin] at hbx; exact hM bx (hb.trans hbx)
  ·rw [hin] at h
   obtain ⟨k1,k2⟩:=hv sz v' xs (hb.trans h)
   exact ⟨k1,fun he=>by
    obtain ⟨l0,l1,l2,b,cap,vs,t,l3,r⟩:=k2 he
    exact ⟨l0,l1,l2,b,cap,vs,t,by rw [upJ_in g2,g4]; exact l3,r⟩⟩
 | @eptr k ver i off v h0 hid hM hv =>
  obtain ⟨id,g1,g2,g3,g4⟩:=bk.at_of hid
  have hb:=List.getElem?_eq_getElem hid
  have hin:=bk.in_ g2 (b:=B'[k]) (by rw [g4]; exact hb)
  rw [ren_loose (hM _ hb)] at hin
  simp only [AVal.ren0,g3]
  refine .eptr h0 (by rw [bk.length_]; exact bk.lts g1) (fun bx hbx=>?_) fun sz v' xs h=>?_
  ·rw [hin] at hbx; exact hM bx (hb.trans hbx)
  ·rw [hin] at h
   obtain ⟨k1,k2⟩:=hv sz v' xs (hb.trans h)
   exact ⟨k1,fun he=>by
    obtain ⟨l1,b,l3,r⟩:=k2 he
    exact ⟨l1,b,by rw [upJ_in g2,g4]; exact l3,r⟩⟩
 |any v=>exact .any v
theorem Back.rep1 {x:AVal} {v:Value} (h:Rep j2 B' w' x v) (hf:x.flat1=true):Rep (upJ j j2 ids) (wback ids M ids B') w' (x.ren1 (atN ids)) v:=by
 by_cases hfn:∃f caps,x = .func f caps
 ·obtain ⟨f,caps,rfl⟩:=hfn
  obtain ⟨vs,rfl,hl,hc⟩:=h.func_inv
  refine .func (by simpa using hl) fun i c u hci hu=>?_
  rw [List.getElem?_map,Option.map_eq_some_iff] at hci
  obtain ⟨c0,hc0,rfl⟩:=hci
  exact bk.rep0 (hc i c0 u hc0 hu) (List.all_eq_true.1 hf c0 (List.mem_of_getElem? hc0))
 ·have e1:x.ren1 (atN ids)=x.ren0 (atN ids):=by cases x<;>first|rfl|exact absurd ⟨_,_,rfl⟩ hfn
  have e3:x.flat0=true:=by cases x<;>first|rfl|exact absurd ⟨_,_,rfl⟩ hfn|cases hf
  rw [e1]
  exact bk.rep0 h e3
theorem Back.rep {x:AVal} {v:Value} (h:Rep j2 B' w' x v) (hf:x.flat=true):Rep (upJ j j2 ids) (wback ids M ids B') w' (x.ren (atN ids)) v:=by
 by_cases hag:∃cs,x = .agg cs
 ·obtain ⟨cs,rfl⟩:=hag
  obtain ⟨vs,rfl,hl,hc⟩:=h.agg_inv
  refine .agg (by simpa using hl) fun i c u hci hu=>?_
  rw [List.getElem?_map,Option.map_eq_some_iff] at hci
  obtain ⟨c0,hc0,rfl⟩:=hci
  exact bk.rep1 (hc i c0 u hc0 hu) (List.all_eq_true.1 hf c0 (List.mem_of_getElem? hc0))
 ·have e1:x.ren (atN ids)=x.ren1 (atN ids):=by cases x<;>first|rfl|exact absurd ⟨_,rfl⟩ hag
  have e3:x.flat1=true:=by cases x<;>first|exact hf|exact absurd ⟨_,rfl⟩ hag
  rw [e1]
  exact bk.rep1 h e3
theorem Back.repR {x:AVal} {v:Value} (h:Rep j2 B' w' x v) (hf:x.flatR=true):Rep (upJ j j2 ids) (wback ids M ids B') w' (x.renR (atN ids)) v:=by
 by_cases ht:∃vs,x = .tuple vs
 ·obtain ⟨cs,rfl⟩:=ht
  obtain ⟨vs,rfl,hl,hc⟩:=h.tuple_inv
  refine .tuple (by simpa using hl) fun i c u hci hu=>?_
  rw [List.getElem?_map,Option.map_eq_some_iff] at hci
  obtain ⟨c0,hc0,rfl⟩:=hci
  exact bk.rep (hc i c0 u hc0 hu) (List.all_eq_true.1 hf c0 (List.mem_of_getElem? hc0))
 ·have e1:x.renR (atN ids)=x.ren (atN ids):=by cases x<;>first|rfl|exact absurd ⟨_,rfl⟩ ht
  have e3:x.flat=true:=by cases x<;>first|exact hf|exact absurd ⟨_,rfl⟩ ht
  rw [e1]
  exact bk.rep h e3
theorem Back.rel_:Rel (upJ j j2 ids) (wback ids M ids B') w':=by
 have ltin:∀ {id:Nat},id∈ids→idxN ids id<B'.length:=fun h=>by rw [bk.len,bk.sub.len]; exact idxN_lt h
 refine ⟨fun id id' b hi hi' h h'=>?_,fun id b hi h=>?_,fun id cb h hf=>?_,fun id sz n b h hj=>?_,fun id sz ver xs h=>?_,fun id b hi h off hx=>?_,fun b off h=>Nat.lt_of_lt_of_le (bk.hr.xlt b off h) bk.ext.size⟩
 ·rw [bk.length_] at hi hi'
  by_cases m:id∈ids<;>by_cases m':id'∈ids
  ·rw [upJ_in m] at h
   rw [upJ_in m'] at h'
   have:=bk.rel.inj _ _ b (ltin m) (ltin m') h h'
   rw [←atN_idx m,this,atN_idx m']
  ·rw [upJ_in m] at h
   rw [upJ_out m'] at h'
   exact absurd h ((bk.old hi' m' h').2 _ (ltin m))
  ·rw [upJ_out m] at h
   rw [upJ_in m'] at h'
   exact absurd h' ((bk.old hi m h).2 _ (ltin m'))
  ·rw [upJ_out m] at h
   rw [upJ_out m'] at h'
   exact bk.hr.inj id id' b hi hi' h h'
 ·rw [bk.length_] at hi
  by_cases m:id∈ids
  ·rw [upJ_in m] at h; exact bk.rel.lt _ b (ltin m) h
  ·rw [upJ_out m] at h; exact Nat.lt_of_lt_of_le (bk.hr.lt id b hi h) bk.ext.size
 ·by_cases m:id∈ids
  ·obtain ⟨bx,h1,h2⟩:=bk.some_ m
   rw [bk.in_ m h1] at h
   injection h with h
   subst h
   have hfx:bx.fixed=true:=by cases bx<;>first|rfl|cases hf
   obtain ⟨b,g1,g2⟩:=bk.rel.fix _ bx h1 hfx
   refine ⟨b,by rw [upJ_in m]; exact g1,?_⟩
   cases bx with
   |tick sz n=>cases hf
   |cells cs0 =>
    obtain ⟨vs,t,k1,k2,k3⟩:=g2
    refine ⟨vs,t,k1,by simpa using k2,fun q c v hc hv=>?_⟩
    rw [List.getElem?_map,Option.map_eq_some_iff] at hc
    obtain ⟨c0,hc0,rfl⟩:=hc
    exact bk.rep1 (k3 q c0 v hc0 hv) (List.all_eq_true.1 h2 c0 (List.mem_of_getElem? hc0))
   |map ks vs =>
    obtain ⟨es,cl,k1,k2,k3,k4,k5⟩:=g2
    refine ⟨es,cl,k1,k2,by simpa using k3,fun q c e hc he=>(k4 q c e hc he).mono fun b off hs=>⟨bk.saf hs,rfl⟩,fun q c e hc he=>?_⟩
    rw [List.getElem?_map,Option.map_eq_some_iff] at hc
    obtain ⟨c0,hc0,rfl⟩:=hc
    exact bk.rep (k5 q c0 e hc0 he) (List.all_eq_true.1 h2 c0 (List.mem_of_getElem? hc0))
   |siter st pos=>exact g2
   |arr=>cases hf
  ·rw [bk.out_ m] at h
   obtain ⟨b,g1,g2⟩:=bk.hr.fix id cb h hf
   exact ⟨b,by rw [upJ_out m]; exact g1,g2.mono bk.ext_ (bk.old (lt_of_some h) m g1).1⟩
 ·by_cases m:id∈ids
  ·obtain ⟨bx,h1,h2⟩:=bk.some_ m
   rw [bk.in_ m h1] at h
   injection h with h
   rw [upJ_in m] at hj
   cases bx<;>first|cases h|skip
   exact bk.rel.tick _ _ _ b h1 hj
  ·rw [bk.out_ m] at h
   rw [upJ_out m] at hj
   obtain ⟨vs,t,g⟩:=bk.hr.tick id sz n b h hj
   exact ⟨vs,t,(bk.old (lt_of_some h) m hj).1.trans g⟩
 ·by_cases m:id∈ids
  ·obtain ⟨bx,h1,h2⟩:=bk.some_ m
   rw [bk.in_ m h1] at h
   injection h with h
   cases bx<;>first|cases h|skip
   obtain ⟨b,vs,t,g1,g2,g3,g4,g5⟩:=bk.rel.arr _ _ _ _ h1
   exact ⟨b,vs,t,by rw [upJ_in m]; exact g1,g2,g3,g4,fun q x k c hx hk=>(g5 q x k c hx hk).imp fun u hu=>⟨hu.1,hu.2.mono fun b off hs=>⟨bk.saf hs,rfl⟩⟩⟩
  ·rw [bk.out_ m] at h
   exact arr_keep bk.hr bk.ext_ h (upJ_out m) fun b hb=>(bk.old (lt_of_some h) m hb).1
 ·rw [bk.length_] at hi
  by_cases m:id∈ids
  ·rw [upJ_in m] at h
   have:=bk.rel.xdis _ b (ltin m) h off
   rw [bk.ext.X] at this
   exact this (.inl hx)
  ·rw [upJ_out m] at h
   exact bk.hr.xdis id b hi h off hx
end
theorem callOp_sound {P:Program} {C:CallF} (hC:SoundC P C) {j:J} {M:AMem} {w:World} {f:Nat} {vs:List AVal} {us:Array Value} {x:AVal×AMem} (hr:Rel j M w) (hG:Glob j M w) (h:callOp C f vs M=some x)
  (hl:vs.length=us.size) (hv:∀(i:Nat) (c:AVal) (u:Value),vs[i]?=some c→us[i]?=some u→Rep j M w c u) :
  enterable P f=true∧Calls P f us w fun e w'=>∃v,e = .returned v∧OpOk j M w x v w':=by
 unfold callOp at h
 generalize hids:reach M (vs.flatMap AVal.ids)=ids at h
 split at h
 ·rename_i hf
  obtain ⟨B,hB,h⟩:=obind_inv h
  split at h
  ·rename_i hcl
   obtain ⟨y,hy,h⟩:=obind_inv h
   split at h
   ·rename_i hcond
    obtain ⟨c1,c2,c3⟩:=hcond
    injection h with h; subst h
    obtain ⟨h1,h2⟩:=hC _ _ _ _ hy
    obtain ⟨p1,p2⟩:=pickM_spec hB
    have s:Sub j M w ids B:=⟨by rw [←hids]; exact nodup_reach _ _,p1,p2,fun i b hi hb x hx=>closed_of hcl hi hb hx⟩
    refine ⟨h1,(h2 (down j M ids) w us (s.rel hr) (hG.saf fun b off h=>s.saf h) (by simpa using hl) fun i c u hc hu=>?_).mono ?_⟩
    ·rw [List.getElem?_map,Option.map_eq_some_iff] at hc
     obtain ⟨c0,hc0,rfl⟩:=hc
     have hm:=List.mem_of_getElem? hc0
     exact s.rep (hv i c0 u hc0 hu) (List.all_eq_true.1 hf c0 hm) fun q hq=>by rw [←hids]; exact mem_reach (List.mem_flatMap.2 ⟨c0,hm,hq⟩)
    ·rintro e w' ⟨v,j2,rfl,g1,g2,g3⟩
     have bk:Back j M B w ids j2 y.2 w':=⟨s,hr,g2,g1,c1,fun b hb=>List.all_eq_true.1 c3 b hb⟩
     exact ⟨v,rfl,upJ j j2 ids,bk.rel_,bk.ext_,bk.repR g3 c2⟩
   ·cases h
  ·cases h
 ·cases h
end Go.Abs
