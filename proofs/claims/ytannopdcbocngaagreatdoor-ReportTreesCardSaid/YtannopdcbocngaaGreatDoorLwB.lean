import Derived.MapKept
import Derived.Laws.IdiomStrings
import Derived.RangeFuncCalls
import Derived.OrdersIn
import Derived.LoopNIn
import Derived.Orders
import Derived.LoopN
import Derived.Laws.AppendOwn
import Derived.Laws.IdiomCopy
import Derived.Test.YtannopdcbocngaaGreatDoorRows
import Derived.Shelf.Strings.Builder1
import Derived.Shelf.Strings.Builder2
import Derived.Shelf.Strings.OnBuilder
import Derived.Shelf.Small.Strs
import Derived.Shelf.Strings.BuilderF
import Derived.Shelf.Strconv.Atoi
import Derived.Shelf.Strconv.Itoa0
import Derived.Shelf.Strconv.Itoa1
import Derived.Shelf.LaysM
import Derived.Shelf.Strconv.Itoa2
import Derived.Shelf.Strconv.Itoa3
import Derived.Shelf.Strconv.AtoiErrFast
import Derived.Shelf.Strconv.ParseIntEmpty
import Derived.Shelf.Strconv.AtoiFail
import Derived.Shelf.Strconv.Clone
import Derived.Shelf.Strconv.SyntaxError
import Derived.Shelf.LaysC
import Derived.Shelf.Strconv.ToError
import Derived.Shelf.Strconv.Lower
import Derived.Shelf.Strconv.ParseUint10
import Derived.Shelf.Strconv.ParseUint10Empty
import Derived.Shelf.Strconv.ParseUint10Any
import Derived.Shelf.Strconv.ParseInt10
import Derived.Shelf.Strconv.AtoiLong
import Derived.Shelf.Strconv.AtoiInnerAll
import Derived.Shelf.Strconv.RangeError
import Derived.Shelf.Strconv.ToErrorRange
import Derived.Shelf.Strconv.AtoiAll
import Derived.Shelf.Strings.Search1
import Derived.Shelf.Strings.Search2
import Derived.Shelf.Strings.Search3
import Derived.Shelf.Strings.Cut
import Derived.Shelf.Strings.Count
import Derived.Shelf.Strings.Shaped
import Derived.Shelf.Strings.Prefix
import Derived.Shelf.Strings.Split
import Derived.Shelf.Unicode.DecodeSlow
import Derived.Test.YtannopdcbocngaaGreatDoorProg
import Derived.Lib.AtoiErrMem
import Derived.Lib.AppendIntMem
import Derived.KernelRfl
import Derived.RangeFuncBox
import Derived.RangeFuncFrom
import Derived.RangeFuncLeaves
import Derived.Shelf.Abstract
import Derived.WalkKit
import Derived.OwnWalkIn
import Derived.TacticsInMore
import Derived.LoopIn
import Derived.Maps.AppendAt
import Derived.Test.YtannopdcbocngaaGreatDoorLwA
set_option linter.unusedSimpArgs false
set_option linter.unusedVariables false
set_option linter.unusedSectionVars false
namespace Go.Abs
open Go Go.RowKit
variable [Globs]
section
variable {P:Program} {C:CallF} {o:Oper} {env:Env} {M:AMem} {j:J} {w:World} {a:Act} {x:AVal×AMem}
theorem bytesOf_get:∀ {xs:List AVal} {l:List UInt8},bytesOf xs=some l→l.length=xs.length∧∀(i:Nat) (x:AVal),xs[i]?=some x→∃n,x = .int .u8 n∧l[i]?=some (UInt8.ofNat n.toNat)
 | [],l,h=>by simp [bytesOf] at h; subst h; exact ⟨rfl,fun i x h=>by simp at h⟩
 |y::r,l,h=>by
  unfold bytesOf at h
  split at h
  ·rename_i e; cases e
  ·rename_i n r' e
   injection e with e1 e2; subst e1; subst e2
   obtain ⟨l',h1,h⟩:=obind_inv h
   injection h with h; subst h
   obtain ⟨g1,g2⟩:=bytesOf_get h1
   refine ⟨by simp [g1],fun i x hx=>?_⟩
   cases i with
   |zero=>simp at hx; exact ⟨n,hx.symm,by simp⟩
   |succ i=>simpa using g2 i x (by simpa using hx)
  ·cases h
theorem push_loop (g:Value→ByteArray→Sem (ForInStep ByteArray)) (hg:∀n s,g (.int .u8 n) s=pure (ForInStep.yield (s.push (UInt8.ofNat n.toNat)))):∀(vs:List Value) (l:List UInt8) (s:ByteArray),vs.length=l.length→(∀(i:Nat) (v:Value) (b:UInt8),vs[i]?=some v→l[i]?=some b→∃n,v = .int .u8 n∧b=UInt8.ofNat n.toNat) →
  (forIn vs s g).run P w = .ok ⟨s.data++l.toArray⟩ w
 | [],[],s,_,_=>by simp
 |v::vs,b::l,s,hl,h=>by
  obtain ⟨n,rfl,rfl⟩:=h 0 v b rfl rfl
  rw [List.forIn_cons,hg]
  simp only [Sem.run_bind,Sem.run_pure,Result.andThen_ok]
  have:=push_loop g hg vs l (s.push (UInt8.ofNat n.toNat)) (by simpa using hl) fun i v b hv hb=>h (i+1) v b (by simpa using hv) (by simpa using hb)
  refine this.trans ?_
  congr 1
  simp [ByteArray.push]
 | [],_::_,_,hl,_=>by simp at hl
 |_::_,[],_,hl,_=>by simp at hl
theorem op_b2s (hr:Rel j M w) (he:EnvRep j M w env a) {s d e:TypeId} {y:Operand} {z:Opd} (hop:o.op = .convert s d y) (hs:P.underlying s=some (.slice e)) (hd:P.underlying d=some .string) (hu:P.underlying e=some (.int .u8))
  (hz:cOpd y=some z) (h:aop C env M (.b2s z)=some x):∃v w',Ran P o a w v w'∧OpOk j M w x v w':=by
 simp only [aop] at h
 have h1:=opd_rep he hz
 split at h
 ·rename_i tk xs ev
  obtain ⟨l,hl,h⟩:=obind_inv h
  injection h with h; subst h
  rw [ev] at h1
  obtain ⟨g1,g2⟩:=bytesOf_get hl
  refine ⟨.string (bs l),w,.inl ?_,.still hr (.plain (.str _))⟩
  obtain ⟨A,cap,b,off,sz,vs,hv,hc,ha,hwid,hcell,hrep⟩:=h1.slice_inv.slice_inv
  have hrun:(Conv.bytesToString (a.eval y)).run P w = .ok (.string (bs l)) w:=by
   rw [hv]
   cases A with
   |none =>
    have:xs=[]:=by
     cases xs with
     |nil=>rfl
     |cons c r=>cases ha (by simp)
    subst this
    have:l=[]:=List.eq_nil_of_length_eq_zero g1
    subst this
    simp [Conv.bytesToString,bs]
    rfl
   |some A =>
    have hload:∃us:Array Value,(loadCells A xs.length).run P w = .ok us w∧us.size=l.length∧∀(i:Nat) (v:Value) (b:UInt8),us[i]?=some v→l[i]?=some b→∃n,v = .int .u8 n∧b=UInt8.ofNat n.toNat:=by
     by_cases hx:xs=[]
     ·subst hx
      have:l=[]:=List.eq_nil_of_length_eq_zero g1
      subst this
      exact ⟨#[],by simp [loadCells,loadCellsFrom],rfl,fun i v b h=>by simp at h⟩
     ·have hA:=ha hx
      injection hA with hA; subst hA
      have hsz:sz=1:=by
       cases xs with
       |nil=>exact absurd rfl hx
       |cons c r =>
        obtain ⟨n,rfl,_⟩:=g2 0 c rfl
        exact (hwid (.int .u8 n) (by simp)).symm
      subst hsz
      have cellOf:∀i,i<xs.length→∃n,w.cell? ⟨b,off+i,none⟩=some (vs i)∧vs i = .int .u8 n∧l[i]?=some (UInt8.ofNat n.toNat):=by
       intro i hi
       have hxi:xs[i]?=some xs[i]:=List.getElem?_eq_getElem hi
       obtain ⟨n,hn,hb⟩:=g2 i _ hxi
       have q1:=hcell i _ 0 (.int .u8 n) hxi (by rw [hn]; rfl)
       have q2:=hrep i _ 0 (.int .u8 n) hxi (by rw [hn]; rfl)
       simp only [Nat.mul_one,Nat.add_zero] at q1 q2
       exact ⟨n,q1.1,(Rep.plain (j:=j) (M:=M) q2).int_inv,hb⟩
      refine ⟨_,load_run (P:=P) (w:=w) b off xs.length vs (fun k hk=>(cellOf k hk).choose_spec.1),by simp [g1],fun i v c hi hb=>?_⟩
      have hlt:i<xs.length:=by rw [←g1]; exact lt_of_some hb
      obtain ⟨n,q1,q2,q3⟩:=cellOf i hlt
      have:v=vs i:=by simp [hlt] at hi; exact hi.symm
      rw [q3] at hb; injection hb with hb
      exact ⟨n,this.trans q2,hb.symm⟩
    obtain ⟨us,u1,u2,u3⟩:=hload
    simp only [Conv.bytesToString,Sem.run_bind,u1,Result.andThen_ok]
    rw [←Array.forIn_toList]
    refine (congrArg (fun r=>Result.andThen r _) (push_loop (P:=P) (w:=w) _ ?_ us.toList l ByteArray.empty (by simpa using u2) fun i v b hv hb=>u3 i v b (by simpa using hv) hb)).trans ?_
    ·intro n s; rfl
    ·simp [bs]
  simp only [execOp,hop,convert,Sem.run_bind,run_und hs,run_und hd,Result.andThen_ok]
  rw [hv] at hrun ⊢
  cases A<;>simp [run_und hu,hrun]
 ·cases h
theorem eqCell_inv {fk:FK} {k k':AVal} {b:Bool} (h:eqCell fk k k'=some b) :
  (∃t x y,k = .int t x∧k' = .int t y∧fk = .i∧b=(x==y))∨(∃x y,k = .str x∧k' = .str y∧fk = .s∧b=(x==y))∨∃x y,k = .bool x∧k' = .bool y∧fk = .b∧b=(x==y):=by
 unfold eqCell at h
 split at h
 ·split at h
  ·rename_i e; subst e; injection h with h; exact .inl ⟨_,_,_,rfl,rfl,rfl,h.symm⟩
  ·cases h
 ·injection h with h; exact .inr (.inl ⟨_,_,rfl,rfl,rfl,h.symm⟩)
 ·injection h with h; exact .inr (.inr ⟨_,_,rfl,rfl,rfl,h.symm⟩)
 ·cases h
def FK.is:FK→TypeDesc→Prop
 | .i,.int _=>True
 | .s,.string=>True
 | .b,.bool=>True
 |_,_=>False
theorem keyFK_inv {t:TypeId} {fk:FK} (h:keyFK P t=some fk):∃d,P.underlying t=some d∧fk.is d:=by
 unfold keyFK at h
 split at h<;>first
  |(rename_i hd; injection h with h; subst h; exact ⟨_,hd,trivial⟩)
  |cases h
theorem same_now {fk:FK} {d:TypeDesc} (hd:fk.is d) {k k':AVal} {b:Bool} (h:eqCell fk k k'=some b) {saf:Nat→Nat→Prop} {v v':Value} (hv:Rep j M w k v) (hv':RepP w saf k' v') :
  Instr.sameNow d v v'=some b∧(b=true→Instr.sameBits 10000 v' v=true)∧RepP w (Saf j M w) k v:=by
 rcases eqCell_inv h with ⟨t,x,y,rfl,rfl,rfl,rfl⟩|⟨x,y,rfl,rfl,rfl,rfl⟩|⟨x,y,rfl,rfl,rfl,rfl⟩
 ·have e1:=hv.int_inv; subst e1; cases hv'
  cases d<;>first|exact False.elim hd|skip
  exact ⟨by simp [Instr.sameNow],fun h=>by simp at h; subst h; simp [Instr.sameBits],.int _ _⟩
 ·have e1:=hv.str_inv; subst e1; cases hv'
  cases d<;>first|exact False.elim hd|skip
  have this:∀x y,(bs x==bs y)=(x==y):=fun x y=>by
   show (x.toArray==y.toArray)=(x==y)
   simp
  exact ⟨by simp [Instr.sameNow,this],fun h=>by simp at h; subst h; simp [Instr.sameBits,this],.str _⟩
 ·have e1:=hv.bool_inv; subst e1; cases hv'
  cases d<;>first|exact False.elim hd|skip
  exact ⟨by simp [Instr.sameNow],fun h=>by simp at h; subst h; simp [Instr.sameBits],.bool _⟩
theorem key_plain {fk:FK} {k:AVal} {b:Bool} (h:eqCell fk k k=some b) {v:Value} (hv:Rep j M w k v):RepP w (Saf j M w) k v:=by
 rcases eqCell_inv h with ⟨t,x,y,rfl,_⟩|⟨x,y,rfl,_⟩|⟨x,y,rfl,_⟩
 ·have:=hv.int_inv; subst this; exact .int _ _
 ·have:=hv.str_inv; subst this; exact .str _
 ·have:=hv.bool_inv; subst this; exact .bool _
theorem check_key {fk:FK} {d:TypeDesc} (hd:fk.is d) {t:TypeId} (ht:P.underlying t=some d) (e:Bool) (v:Value):(Instr.checkKey e 10000 t v).run P w = .ok () w:=by
 rw [Instr.checkKey.eq_def]
 simp only [Sem.run_bind,run_und ht,Result.andThen_ok]
 cases fk<;>cases d<;>first|exact False.elim hd|(cases v<;>rfl)
theorem find_get {fk:FK} {d:TypeDesc} (hd:fk.is d) {k:AVal} {v:Value} (hv:Rep j M w k v) {saf:Nat→Nat→Prop}:∀ {ks vs:List AVal} {es:List MapEntry} {r:Option AVal} (n:Nat),mapGet fk k ks vs=some r →
  ks.length=es.length→vs.length=es.length→(∀(i:Nat) (k:AVal) (e:MapEntry),ks[i]?=some k→es[i]?=some e→RepP w saf k e.key) →
  (r=none∧Instr.findNow d v es n=some none)∨∃i u e,r=some u∧vs[i]?=some u∧es[i]?=some e∧Instr.findNow d v es n=some (some (n+i,e.val))
 | [],[],[],r,n,h,_,_,_=>by simp [mapGet] at h; exact .inl ⟨h.symm,rfl⟩
 |k'::ks,u::vs,e::es,r,n,h,h1,h2,h3=>by
  rw [mapGet] at h
  obtain ⟨b,hb,h⟩:=obind_inv h
  obtain ⟨s1,_⟩:=same_now hd hb hv (h3 0 k' e rfl rfl)
  rcases oif_inv h with ⟨rfl,h⟩|⟨rfl,h⟩
  ·injection h with h
   exact .inr ⟨0,u,e,h.symm,rfl,rfl,by simp [Instr.findNow,s1]⟩
  ·have hf:Instr.findNow d v (e::es) n=Instr.findNow d v es (n+1):=by rw [Instr.findNow,s1]
   rcases find_get hd hv (n+1) h (by simpa using h1) (by simpa using h2) (fun i k e hk he=>h3 (i+1) k e (by simpa using hk) (by simpa using he)) with ⟨g1,g2⟩|⟨i,u',e',g1,g2,g3,g4⟩
   ·exact .inl ⟨g1,hf.trans g2⟩
   ·exact .inr ⟨i+1,u',e',g1,by simpa using g2,by simpa using g3,by rw [hf,g4]; simp; omega⟩
 | [],_::_,[],_,_,_,_,h2,_=>by simp at h2
 |_::_,[],_::_,_,_,_,_,h2,_=>by simp at h2
 | [],_,_::_,_,_,_,h1,_,_=>by simp at h1
 |_::_,_,[],_,_,_,h1,_,_=>by simp at h1
theorem find_put {fk:FK} {d:TypeDesc} (hd:fk.is d) {k y:AVal} {v:Value} (hv:Rep j M w k v) {saf:Nat→Nat→Prop}:∀ {ks vs:List AVal} {es:List MapEntry} {r:List AVal×List AVal} (n:Nat),mapPut fk k y ks vs=some r →
  ks.length=es.length→vs.length=es.length→(∀(i:Nat) (k:AVal) (e:MapEntry),ks[i]?=some k→es[i]?=some e→RepP w saf k e.key) →
  RepP w (Saf j M w) k v∧((r=(ks++[k],vs++[y])∧Instr.findNow d v es n=some none)∨∃i e,r=(ks.set i k,vs.set i y)∧es[i]?=some e∧Instr.sameBits 10000 e.key v=true∧Instr.findNow d v es n=some (some (n+i,e.val)))
 | [],[],[],r,n,h,_,_,_=>by
  rw [mapPut] at h
  obtain ⟨b,hb,h⟩:=obind_inv h
  injection h with h
  exact ⟨key_plain hb hv,.inl ⟨h.symm,rfl⟩⟩
 |k'::ks,u::vs,e::es,r,n,h,h1,h2,h3=>by
  rw [mapPut] at h
  obtain ⟨b,hb,h⟩:=obind_inv h
  obtain ⟨s1,s2,s3⟩:=same_now hd hb hv (h3 0 k' e rfl rfl)
  refine ⟨s3,?_⟩
  rcases oif_inv h with ⟨rfl,h⟩|⟨rfl,h⟩
  ·injection h with h
   exact .inr ⟨0,e,h.symm,rfl,s2 rfl,by simp [Instr.findNow,s1]⟩
  ·obtain ⟨r',h',h⟩:=obind_inv h
   injection h with h; subst h
   have hf:Instr.findNow d v (e::es) n=Instr.findNow d v es (n+1):=by rw [Instr.findNow,s1]
   rcases (find_put hd hv (n+1) h' (by simpa using h1) (by simpa using h2) (fun i k e hk he=>h3 (i+1) k e (by simpa using hk) (by simpa using he))).2 with ⟨g1,g2⟩|⟨i,e',g1,g2,g3,g4⟩
   ·exact .inl ⟨by rw [g1]; rfl,hf.trans g2⟩
   ·exact .inr ⟨i+1,e',by rw [g1]; rfl,by simpa using g2,g3,by rw [hf,g4]; simp; omega⟩
 | [],_::_,[],_,_,_,_,h2,_=>by simp at h2
 |_::_,[],_::_,_,_,_,_,h2,_=>by simp at h2
 | [],_,_::_,_,_,_,h1,_,_=>by simp at h1
 |_::_,_,[],_,_,_,h1,_,_=>by simp at h1
theorem RepD.rep {x:AVal} {v:Value} (h:RepD w (Saf j M w) x v):Rep j M w x v:=by
 by_cases hag:∃cs,x = .agg cs
 ·obtain ⟨cs,rfl⟩:=hag
  obtain ⟨us,rfl,h2,h3⟩:=h
  exact .agg h2 fun i c u hc hu => .plain (h3 i c u hc hu)
 ·cases x<;>first|exact absurd ⟨_,rfl⟩ hag|exact .plain h
theorem mapOf_inv (hr:Rel j M w) {m:AVal} {v:Value} {e:List AVal×List AVal} (h:mapOf M m=some e) (hm:Rep j M w m v):∃(b:Nat) (es:Array MapEntry) (clock:Nat),v = .map (some b)∧w.heap[b]?=some (.map es clock) ∧
  e.1.length=es.size∧e.2.length=es.size∧(∀(i:Nat) (k:AVal) (e':MapEntry),e.1[i]?=some k→es[i]?=some e'→RepP w (Saf j M w) k e'.key)∧∀(i:Nat) (k:AVal) (e':MapEntry),e.2[i]?=some k→es[i]?=some e'→Rep j M w k e'.val:=by
 unfold mapOf at h
 split at h
 ·split at h
  ·rename_i ks vs hM
   injection h with h; subst h
   rw [nth_eq] at hM
   obtain ⟨b,_,hj,rfl⟩:=hm.mref_inv
   obtain ⟨b',hj',es,clock,g1,g2,g3,g4,g5⟩:=hr.fix _ _ hM rfl
   rw [hj] at hj'; injection hj' with hj'; subst hj'
   exact ⟨_,es,clock,rfl,g1,g2,g3,g4,g5⟩
  ·cases h
 ·injection h with h; subst h
  cases hm with
  |plain h=>cases h
  |fmap hb hf hx hw hk hv hks hvs=>exact ⟨_,_,_,rfl,hw,hk,hv,hks,fun i k e h1 h2=>(hvs i k e h1 h2).rep⟩
 ·cases h
theorem look_rep {zero:AVal} {ok:Bool} {r:Option AVal} {v:Value} (h:Rep j M w (r.getD zero) v):Rep j M w (lookRes zero ok r) (if ok then .tuple #[v,.bool r.isSome] else v):=by
 cases ok with
 |false=>exact h
 |true =>
  refine .tuple rfl fun i c u hc hu=>?_
  match i with
  |0=>simp at hc hu; subst hc; subst hu; exact h
  |1=>simp at hc hu; subst hc; subst hu; exact .plain (.bool _)
  |n+2=>simp at hc
theorem op_look (hr:Rel j M w) (he:EnvRep j M w env a) {t kt et:TypeId} {m k:Operand} {m' k':Opd} {ok:Bool} {fk:FK} {ie:TypeInfo} {zv:Value} {z:AVal} (hop:o.op = .lookup t m k ok) (ht:P.underlying t=some (.map kt et))
  (hk:keyFK P kt=some fk) (hi:P.info? et=some ie) (hz:ie.zero=some zv) (hzv:absT zv=some z) (hm':cOpd m=some m') (hk':cOpd k=some k') (h:aop C env M (.look fk z ok m' k')=some x) :
  ∃v w',Ran P o a w v w'∧OpOk j M w x v w':=by
 simp only [aop] at h
 obtain ⟨e,h1,h⟩:=obind_inv h
 obtain ⟨r,h2,h⟩:=obind_inv h
 injection h with h; subst h
 obtain ⟨d,hd,hfk⟩:=keyFK_inv hk
 obtain ⟨b,es,clock,hv,hb,g1,g2,g3,g4⟩:=mapOf_inv hr h1 (opd_rep he hm')
 have hc:∀q,(Instr.checkKey q 10000 kt (a.eval k)).run P w = .ok () w:=fun q=>check_key hfk hd q _
 rcases find_get hfk (opd_rep he hk') (es:=es.toList) 0 h2 (by simpa using g1) (by simpa using g2) (fun i k e hk he=>g3 i k e hk (by simpa using he)) with ⟨rfl,f1⟩|⟨i,u,e',rfl,f2,f3,f1⟩
 ·refine ⟨if ok then .tuple #[zv,.bool false] else zv,w,.inl ?_,.still hr (look_rep (r:=none) (absT_rep hzv))⟩
  simp [execOp,hop,Instr.lookup,run_und ht,hv,MapKept.run_getObj_map hb,hc,Instr.findKey,run_und hd,f1,zeroValue,run_info hi,hz]
 ·refine ⟨if ok then .tuple #[e'.val,.bool true] else e'.val,w,.inl ?_,.still hr (look_rep (r:=some u) (g4 i u e' f2 (by simpa using f3)))⟩
  simp [execOp,hop,Instr.lookup,run_und ht,hv,MapKept.run_getObj_map hb,hc,Instr.findKey,run_und hd,f1]
theorem op_lenM (hr:Rel j M w) (he:EnvRep j M w env a) {c:Call} {y:Operand} {z:Opd} {t k e:TypeId} (hop:o.op = .call c) (hb:c.callee = .builtin .len) (ha:c.args.toList=[y])
  (ht:c.argTypes[0]?=some t) (hs:P.underlying t=some (.map k e)) (hz:cOpd y=some z) (h:aop C env M (.lenM z)=some x):∃v w',Ran P o a w v w'∧OpOk j M w x v w':=by
 simp only [aop] at h
 obtain ⟨e,h1,h⟩:=obind_inv h
 injection h with h; subst h
 obtain ⟨b,es,clock,hv,hbl,g1,g2,g3,g4⟩:=mapOf_inv hr h1 (opd_rep he hz)
 have ha':c.args = #[y]:=by rw [←ha]
 refine ⟨.int .i64 e.1.length,w,.inl ?_,.still hr (.plain (.int _ _))⟩
 simp [execOp,hop,resolve,hb,invoke,builtin,Builtin.len_,ha',ht,run_und hs,hv,MapKept.run_getObj_map hbl,goInt,g1]
theorem new_obj (hr:Rel j M w) {bx:ABox} {ob:Obj} (hfx:bx.fixed=true) (hh:∀j' M' (w':World),w'.heap[w.heap.size]?=some ob→Holds j' M' w' w.heap.size bx) :
  ∃j':J,Rel j' (M++[bx]) { w with heap:=w.heap.push ob }∧Ext j M w j' (M++[bx]) { w with heap:=w.heap.push ob }∧j' M.length=some w.heap.size:=by
 have q:Quiet w { w with heap:=w.heap.push ob }:=⟨by simp,rfl,rfl,rfl⟩
 have hb:∀b,b<w.heap.size→({ w with heap:=w.heap.push ob }:World).heap[b]?=w.heap[b]?:=fun b hb=>by
  show (w.heap.push _)[b]?=_
  rw [Array.getElem?_push,if_neg (by omega)]
 have hn:({ w with heap:=w.heap.push ob }:World).heap[w.heap.size]?=some ob:=by simp
 refine ⟨upd j M.length (some w.heap.size),hr.push (fun b h=>?_) q hb (fun _=>?_) (fun sz n b h=>by rw [h] at hfx; cases hfx) (fun sz v xs h=>by rw [h] at hfx; cases hfx),Ext.push (fun b h=>?_) q hb,by simp [upd]⟩
 ·injection h with h; subst h; simp
 ·exact ⟨_,rfl,fun j' M' hx=>hh j' M' _ hn⟩
 ·injection h with h; omega
theorem op_mkMap (hr:Rel j M w) {t:TypeId} (hop:o.op = .makeMap t none) (h:aop C env M .mkMap=some x):∃v w',Ran P o a w v w'∧OpOk j M w x v w':=by
 simp only [aop] at h
 injection h with h; subst h
 obtain ⟨j',h1,h2,h3⟩:=new_obj (ob := .map #[] 0) (bx := .map [] []) hr rfl fun j' M' w' hw=>⟨#[],0,hw,rfl,rfl,fun i k e h=>by simp at h,fun i k e h=>by simp at h⟩
 exact ⟨.map (some w.heap.size),_,.inl (by simp [execOp,hop,Instr.makeMap]),j',h1,h2,.mref ⟨[],[],by simp⟩ h3⟩
theorem op_rngS (hr:Rel j M w) (he:EnvRep j M w env a) {t:TypeId} {y:Operand} {z:Opd} (hop:o.op = .range t y) (ht:P.underlying t=some .string) (hz:cOpd y=some z) (h:aop C env M (.rngS z)=some x):∃v w',Ran P o a w v w'∧OpOk j M w x v w':=by
 simp only [aop] at h
 have h0:=opd_rep he hz
 split at h
 ·rename_i s e
  rw [e] at h0
  injection h with h; subst h
  obtain ⟨j',h1,h2,h3⟩:=new_obj (ob := .stringIter (bs s) 0) (bx := .siter s 0) hr rfl fun j' M' w' hw=>hw
  exact ⟨.pointer (some ⟨w.heap.size,0,none⟩),_,.inl (by simp [execOp,hop,Instr.range,run_und ht,h0.str_inv]),j',h1,h2,.iref ⟨s,0,by simp⟩ h3⟩
 ·cases h
theorem put_obj (hr:Rel j M w) {id b:Nat} {bx bx':ABox} {ob:Obj} (hM:M[id]?=some bx) (hfx:bx.fixed=true) (htag:bx'.tag=bx.tag) (hj:j id=some b) (hnc:∀vs t fr,w.heap[b]?≠some (.cells vs t fr))
  (hh:∀j' M' (w':World),Ext j M w j' M' w'→w'.heap[b]?=some ob→Holds j' M' w' b bx') :
  Rel j (M.set id bx') { w with heap:=w.heap.setIfInBounds b ob }∧Ext j M w j (M.set id bx') { w with heap:=w.heap.setIfInBounds b ob }:=by
 have q:Quiet w { w with heap:=w.heap.setIfInBounds b ob }:=⟨by simp,rfl,rfl,rfl⟩
 have hb:∀b',b'≠b→b'<w.heap.size→({ w with heap:=w.heap.setIfInBounds b ob }:World).heap[b']?=w.heap[b']?:=fun b' hne _=>by
  show (w.heap.setIfInBounds b ob)[b']?=_
  rw [Array.getElem?_setIfInBounds_ne (Ne.symm hne)]
 have hlt:b<w.heap.size:=hr.lt id b (lt_of_some hM) hj
 have hn:({ w with heap:=w.heap.setIfInBounds b ob }:World).heap[b]?=some ob:=by
  show (w.heap.setIfInBounds b ob)[b]?=_
  simp [hlt]
 exact ⟨Rel.store hM hfx htag hj hr q hb (fun vs t fr h=>absurd h (hnc vs t fr)) fun j' M' hx=>hh j' M' _ hx hn,Ext.store hM hfx htag hj hr q hb (fun vs t fr h=>absurd h (hnc vs t fr))⟩
theorem op_nextS (hr:Rel j M w) (he:EnvRep j M w env a) {y:Operand} {z:Opd} (hop:o.op = .next y true) (hz:cOpd y=some z) (h:aop C env M (.nextS z)=some x):∃v w',Ran P o a w v w'∧OpOk j M w x v w':=by
 simp only [aop] at h
 have h0:=opd_rep he hz
 split at h
 ·rename_i id e
  rw [e] at h0
  obtain ⟨b,_,hj,hv⟩:=h0.iref_inv
  split at h
  ·rename_i s pos hM
   rw [nth_eq] at hM
   obtain ⟨b',hj',hw⟩:=hr.fix _ _ hM rfl
   rw [hj] at hj'; injection hj' with hj'; subst hj'
   have hw:w.heap[b]?=some (.stringIter (bs s) pos):=hw
   have hsz:(bs s).size=s.length:=by simp [bs,ByteArray.size]
   have hget:(getObj b).run P w = .ok (.stringIter (bs s) pos) w:=by simp [getObj,Sem.run,hw]
   rcases oif_inv h with ⟨hlt,h⟩|⟨hlt,h⟩<;>(injection h with h; subst h)
   ·have hlt':pos<s.length:=by simpa using hlt
    have hset:∀ob,(setObj b ob).run P w = .ok () { w with heap:=w.heap.setIfInBounds b ob }:=fun ob=>by simp [setObj,Sem.run,hw]
    obtain ⟨r1,r2⟩:=put_obj (ob := .stringIter (bs s) (pos+(Utf8.decode (bs s) pos).2)) (bx' := .siter s (pos+(Utf8.decode ⟨s.toArray⟩ pos).2)) hr hM rfl rfl hj (fun vs t fr h=>by rw [hw] at h; cases h) fun j' M' w' _ hw=>hw
    refine ⟨.tuple #[.bool true,goInt pos,.int .i32 (Utf8.decode (bs s) pos).1],{ w with heap:=w.heap.setIfInBounds b (.stringIter (bs s) (pos+(Utf8.decode (bs s) pos).2)) },.inl ?_,j,?_,?_,?_⟩
    ·simp [execOp,hop,Instr.next,hv,hget,hsz,hlt',hset]
    ·rw [setN_eq]; exact r1
    ·rw [setN_eq]; exact r2
    ·refine .tuple rfl fun i c u hc hu=>?_
     match i with
     |0=>simp at hc hu; subst hc; subst hu; exact .plain (.bool _)
     |1=>simp at hc hu; subst hc; subst hu; exact .plain (.int _ _)
     |2=>simp at hc hu; subst hc; subst hu; exact .plain (.int _ _)
     |n+3=>simp at hc
   ·have hlt':¬pos<s.length:=by simpa using hlt
    refine ⟨.tuple #[.bool false],w,.inl ?_,.still hr (.tuple rfl fun i c u hc hu=>?_)⟩
    ·simp [execOp,hop,Instr.next,hv,hget,hsz,hlt']
    ·match i with
     |0=>simp at hc hu; subst hc; subst hu; exact .plain (.bool _)
     |n+1=>simp at hc
  ·cases h
 ·cases h
theorem op_upd (hr:Rel j M w) (he:EnvRep j M w env a) {t kt et:TypeId} {m k y:Operand} {m' k' y':Opd} {fk:FK} (hop:o.op = .mapUpdate t m k y) (ht:P.underlying t=some (.map kt et))
  (hk:keyFK P kt=some fk) (hm':cOpd m=some m') (hk':cOpd k=some k') (hy':cOpd y=some y') (h:aop C env M (.upd fk m' k' y')=some x):∃v w',Ran P o a w v w'∧OpOk j M w x v w':=by
 simp only [aop] at h
 have h0:=opd_rep he hm'
 split at h
 ·rename_i id e
  rw [e] at h0
  split at h
  ·rename_i ks vs hM
   obtain ⟨r,hr',h⟩:=obind_inv h
   injection h with h; subst h
   rw [nth_eq] at hM
   obtain ⟨b,_,hj,hv⟩:=h0.mref_inv
   obtain ⟨b',hj',es,clock,hb,g2,g3,g4,g5⟩:=hr.fix _ _ hM rfl
   rw [hj] at hj'; injection hj' with hj'; subst hj'
   obtain ⟨d,hd,hfk⟩:=keyFK_inv hk
   have hc:∀q,(Instr.checkKey q 10000 kt (a.eval k)).run P w = .ok () w:=fun q=>check_key hfk hd q _
   have hyr:=opd_rep he hy'
   obtain ⟨kp,hf⟩:=find_put hfk (opd_rep he hk') (es:=es.toList) 0 hr' (by simpa using g2) (by simpa using g3) (fun i k e hk he=>g4 i k e hk (by simpa using he))
   have hset:∀ob,(setObj b ob).run P w = .ok () { w with heap:=w.heap.setIfInBounds b ob }:=fun ob=>MapKept.run_setObj_map ob hb
   rcases hf with ⟨rfl,f1⟩|⟨i,e',rfl,f3,f4,f1⟩
   ·obtain ⟨r1,r2⟩:=put_obj (ob := .map (es.push { key:=a.eval k,val:=a.eval y,born:=clock }) (clock+1)) (bx' := .map (ks++[k'.ev env]) (vs++[y'.ev env])) hr hM rfl rfl hj (fun vs t fr h=>by rw [hb] at h; cases h) fun j' M' w' hx hw=>by
     refine ⟨_,_,hw,by simp [g2],by simp [g3],fun i k e hk he=>?_,fun i k e hk he=>?_⟩
     ·rw [Array.getElem?_push] at he
      rw [List.getElem?_append] at hk
      by_cases hi:i=es.size
      ·subst hi
       simp [g2] at hk he
       subst hk; subst he
       exact kp.mono hx.saf
      ·rw [if_neg hi] at he
       have hi':i<es.size:=(Array.getElem?_eq_some_iff.1 he).1
       rw [if_pos (by omega)] at hk
       exact (g4 i k e hk he).mono hx.saf
     ·rw [Array.getElem?_push] at he
      rw [List.getElem?_append] at hk
      by_cases hi:i=es.size
      ·subst hi
       simp [g3] at hk he
       subst hk; subst he
       exact hyr.mono hx
      ·rw [if_neg hi] at he
       have hi':i<es.size:=(Array.getElem?_eq_some_iff.1 he).1
       rw [if_pos (by omega)] at hk
       exact (g5 i k e hk he).mono hx
    refine ⟨undef,{ w with heap:=w.heap.setIfInBounds b (.map (es.push { key:=a.eval k,val:=a.eval y,born:=clock }) (clock+1)) },.inr ⟨?_,rfl⟩,j,?_,?_,.any _⟩
    ·simp [execOp,hop,Instr.mapUpdate,run_und ht,hv,MapKept.run_getObj_map hb,hc,Instr.findKey,run_und hd,f1,hset]
    ·rw [setN_eq]; exact r1
    ·rw [setN_eq]; exact r2
   ·have hi:i<es.size:=by simpa using (List.getElem?_eq_some_iff.1 f3).1
    have he':es[i]?=some e':=by simpa using f3
    obtain ⟨r1,r2⟩:=put_obj (ob := .map (es.modify i fun e=>{ e with key:=a.eval k,val:=a.eval y }) clock) (bx' := .map (ks.set i (k'.ev env)) (vs.set i (y'.ev env))) hr hM rfl rfl hj (fun vs t fr h=>by rw [hb] at h; cases h) fun j' M' w' hx hw=>by
     refine ⟨_,_,hw,by simp [g2],by simp [g3],fun q k e hk he=>?_,fun q k e hk he=>?_⟩
     ·rw [Array.getElem?_modify] at he
      by_cases hq:i=q
      ·subst hq
       simp [he'] at he
       rw [List.getElem?_set_self (by omega)] at hk
       injection hk with hk; subst hk; subst he
       exact kp.mono hx.saf
      ·rw [if_neg hq] at he
       rw [List.getElem?_set_ne hq] at hk
       exact (g4 q k e hk he).mono hx.saf
     ·rw [Array.getElem?_modify] at he
      by_cases hq:i=q
      ·subst hq
       simp [he'] at he
       rw [List.getElem?_set_self (by omega)] at hk
       injection hk with hk; subst hk; subst he
       exact hyr.mono hx
      ·rw [if_neg hq] at he
       rw [List.getElem?_set_ne hq] at hk
       exact (g5 q k e hk he).mono hx
    refine ⟨undef,{ w with heap:=w.heap.setIfInBounds b (.map (es.modify i fun e=>{ e with key:=a.eval k,val:=a.eval y }) clock) },.inr ⟨?_,rfl⟩,j,?_,?_,.any _⟩
    ·simp [execOp,hop,Instr.mapUpdate,run_und ht,hv,MapKept.run_getObj_map hb,hc,Instr.findKey,run_und hd,f1,hset,he',Instr.keyThatStays,f4]
    ·rw [setN_eq]; exact r1
    ·rw [setN_eq]; exact r2
  ·cases h
 ·cases h
end
end Go.Abs
namespace Go.Abs
open Go Go.RowKit
variable [Globs]
def flatC (xs:List AVal):List AVal:=xs.flatMap AVal.cells
theorem flatC_cons (x:AVal) (xs:List AVal):flatC (x::xs)=x.cells++flatC xs:=rfl
theorem flatC_append (xs ys:List AVal):flatC (xs++ys)=flatC xs++flatC ys:=by simp [flatC]
theorem flatC_length {sz:Nat}:∀ {xs:List AVal},wid xs sz→(flatC xs).length=xs.length*sz
 | [],_=>by simp [flatC]
 |x::xs,h=>by
  rw [flatC_cons,List.length_append,h x (List.mem_cons_self ..),flatC_length fun y hy=>h y (List.mem_cons_of_mem _ hy),List.length_cons,Nat.add_mul]
  omega
theorem wid_append {sz:Nat} {xs ys:List AVal} (h1:wid xs sz) (h2:wid ys sz):wid (xs++ys) sz:=fun x hx=>(List.mem_append.1 hx).elim (h1 x) (h2 x)
theorem wid_take {sz n:Nat} {xs:List AVal} (h:wid xs sz):wid (xs.take n) sz:=fun x hx=>h x (List.mem_of_mem_take hx)
theorem wid_drop {sz n:Nat} {xs:List AVal} (h:wid xs sz):wid (xs.drop n) sz:=fun x hx=>h x (List.mem_of_mem_drop hx)
theorem flatC_take {sz:Nat}:∀(n:Nat) {xs:List AVal},wid xs sz→flatC (xs.take n)=(flatC xs).take (n*sz)
 |0,_,_=>by simp [flatC]
 |n+1,[],_=>by simp [flatC]
 |n+1,x::xs,h=>by
  have hx:=h x (List.mem_cons_self ..)
  have e:(n+1)*sz=sz+n*sz:=by rw [Nat.add_mul]; omega
  rw [List.take_succ_cons,flatC_cons,flatC_cons,flatC_take n fun y hy=>h y (List.mem_cons_of_mem _ hy),List.take_append,hx,e,Nat.add_sub_cancel_left,List.take_of_length_le (l:=x.cells) (by omega)]
theorem flatC_drop {sz:Nat}:∀(n:Nat) {xs:List AVal},wid xs sz→flatC (xs.drop n)=(flatC xs).drop (n*sz)
 |0,_,_=>by simp
 |n+1,[],_=>by simp [flatC]
 |n+1,x::xs,h=>by
  have hx:=h x (List.mem_cons_self ..)
  have e:(n+1)*sz=sz+n*sz:=by rw [Nat.add_mul]; omega
  rw [List.drop_succ_cons,flatC_cons,flatC_drop n fun y hy=>h y (List.mem_cons_of_mem _ hy),List.drop_append,hx,e,Nat.add_sub_cancel_left,List.drop_of_length_le (l:=x.cells) (by omega),List.nil_append]
theorem flatC_get {sz:Nat}:∀ {xs:List AVal},wid xs sz→∀ {q:Nat} {x:AVal} {k:Nat} {c:AVal},xs[q]?=some x→x.cells[k]?=some c→(flatC xs)[q*sz+k]?=some c
 | [],_,q,x,k,c,hx,_=>by simp at hx
 |y::xs,h,0,x,k,c,hx,hk=>by
  simp at hx; subst hx
  rw [flatC_cons,Nat.zero_mul,Nat.zero_add,List.getElem?_append_left (List.getElem?_eq_some_iff.1 hk).1]
  exact hk
 |y::xs,h,q+1,x,k,c,hx,hk=>by
  have hy:=h y (List.mem_cons_self ..)
  rw [flatC_cons,List.getElem?_append_right (by rw [hy,Nat.add_mul]; omega),hy]
  rw [show (q+1)*sz+k-sz=q*sz+k by rw [Nat.add_mul]; omega]
  exact flatC_get (fun z hz=>h z (List.mem_cons_of_mem _ hz)) (by simpa using hx) hk
theorem flatC_at {sz:Nat} {xs:List AVal} (h:wid xs sz) {p:Nat} {c:AVal} (hp:(flatC xs)[p]?=some c):∃q x k,xs[q]?=some x∧x.cells[k]?=some c∧p=q*sz+k:=by
 have hlt:p<xs.length*sz:=by rw [←flatC_length h]; exact (List.getElem?_eq_some_iff.1 hp).1
 have hsz:0<sz:=by
  rcases Nat.eq_zero_or_pos sz with h0|h0
  ·subst h0; simp at hlt
  ·exact h0
 have hq:p / sz<xs.length:=by rw [Nat.div_lt_iff_lt_mul hsz]; exact hlt
 have hx:=List.getElem?_eq_getElem hq
 have hk:p % sz<(xs[p / sz]).cells.length:=by rw [h _ (List.getElem_mem hq)]; exact Nat.mod_lt _ hsz
 have hc:=List.getElem?_eq_getElem hk
 have hpe:p / sz*sz+p % sz=p:=by rw [Nat.mul_comm]; exact Nat.div_add_mod p sz
 have:=flatC_get h hx hc
 rw [hpe,hp] at this
 refine ⟨_,_,_,hx,?_,hpe.symm⟩
 rw [hc]; exact this.symm
def RL (w:World) (saf:Nat→Nat→Prop) (cs:List AVal) (vs:List Value):Prop:=cs.length=vs.length∧∀(p:Nat) (c:AVal) (v:Value),cs[p]?=some c→vs[p]?=some v→RepP w saf c v
section
variable {w w':World} {saf saf':Nat→Nat→Prop} {cs ds:List AVal} {us vs:List Value}
theorem RL.append (h:RL w saf cs us) (k:RL w saf ds vs):RL w saf (cs++ds) (us++vs):=by
 refine ⟨by simp [h.1,k.1],fun p c v hc hv=>?_⟩
 rcases Nat.lt_or_ge p cs.length with hp|hp
 ·rw [List.getElem?_append_left hp] at hc
  rw [List.getElem?_append_left (by rw [←h.1]; exact hp)] at hv
  exact h.2 p c v hc hv
 ·rw [List.getElem?_append_right hp] at hc
  rw [List.getElem?_append_right (by rw [←h.1]; exact hp),←h.1] at hv
  exact k.2 _ c v hc hv
theorem RL.take (n:Nat) (h:RL w saf cs us):RL w saf (cs.take n) (us.take n):=by
 refine ⟨by simp [h.1],fun p c v hc hv=>?_⟩
 rw [List.getElem?_take] at hc hv
 split at hc
 ·rename_i hp
  rw [if_pos hp] at hv
  exact h.2 p c v hc hv
 ·cases hc
theorem RL.drop (n:Nat) (h:RL w saf cs us):RL w saf (cs.drop n) (us.drop n):=by
 refine ⟨by simp [h.1],fun p c v hc hv=>?_⟩
 rw [List.getElem?_drop] at hc hv
 exact h.2 _ c v hc hv
theorem RL.mono (hm:∀b off,saf b off→saf' b off∧w'.cell? ⟨b,off,none⟩=w.cell? ⟨b,off,none⟩) (h:RL w saf cs us):RL w' saf' cs us:=⟨h.1,fun p c v hc hv=>(h.2 p c v hc hv).mono hm⟩
end
section
variable {j:J} {M:AMem} {w:World}
theorem arr_row {b sz:Nat} {xs:List AVal} {vs:Array Value} (hl:xs.length*sz≤vs.size) (hwd:wid xs sz)
  (hc:∀(q:Nat) (x:AVal) (k:Nat) (c:AVal),xs[q]?=some x→x.cells[k]?=some c→∃v,vs[q*sz+k]?=some v∧RepP w (Saf j M w) c v):RL w (Saf j M w) (flatC xs) (vs.toList.take (xs.length*sz)):=by
 refine ⟨by rw [flatC_length hwd]; simp; omega,fun p c v hp hv=>?_⟩
 obtain ⟨q,x,k,h1,h2,rfl⟩:=flatC_at hwd hp
 obtain ⟨u,h3,h4⟩:=hc q x k c h1 h2
 rw [List.getElem?_take] at hv
 split at hv
 ·rw [Array.getElem?_toList,h3] at hv
  injection hv with hv; subst hv
  exact h4
 ·cases hv
theorem arr_of_row {j':J} {M':AMem} {w':World} {b sz:Nat} {t:TypeId} {xs:List AVal} {us:List Value} {vs:Array Value} (hw:w'.heap[b]?=some (.cells vs t (0,0))) (hwd:wid xs sz) (hr:RL w' (Saf j' M' w') (flatC xs) us)
  (hv:∀p,p<us.length→vs[p]?=us[p]?):ArrAt j' M' w' b sz xs:=by
 have hlen:us.length=xs.length*sz:=by rw [←hr.1,flatC_length hwd]
 refine ⟨vs,t,hw,?_,hwd,fun q x k c hx hk=>?_⟩
 ·rcases Nat.eq_zero_or_pos us.length with h0|h0
  ·omega
  ·have h1:=hv (us.length-1) (by omega)
   rw [List.getElem?_eq_getElem (by omega)] at h1
   have:=(Array.getElem?_eq_some_iff.1 h1).1
   omega
 ·have h1:=flatC_get hwd hx hk
  have hp:q*sz+k<us.length:=by rw [←hr.1]; exact (List.getElem?_eq_some_iff.1 h1).1
  exact ⟨us[q*sz+k],by rw [hv _ hp,List.getElem?_eq_getElem hp],hr.2 _ _ _ h1 (List.getElem?_eq_getElem hp)⟩
theorem frzM_keep:∀(ids:List Nat) {M:AMem} {i:Nat} {bx:ABox},M[i]?=some bx→(∀sz v xs,bx ≠ .arr sz v xs)→(frzM M ids)[i]?=some bx
 | [],_,_,_,h,_=>h
 |a::r,M,i,bx,h,hn=>by
  simp only [frzM,nth_eq]
  split
  ·rename_i sz v xs hM
   refine frzM_keep r ?_ hn
   have e:a≠i:=by rintro rfl; rw [hM] at h; injection h with h; exact hn _ _ _ h.symm
   rw [setN_eq,set_other e]; exact h
  ·exact frzM_keep r h hn
theorem frzM_ok:∀(ids:List Nat) {M:AMem},Rel j M w→Ext j M w j (frzM M ids) w∧Rel j (frzM M ids) w∧(frzM M ids).length=M.length∧∀id,id∈ids→∀sz v xs,M[id]?=some (.arr sz v xs)→(frzM M ids)[id]?=some (.tick sz xs.length)
 | [],M,hr=>⟨.refl _ _ _,hr,rfl,fun id h=>by cases h⟩
 |a::r,M,hr=>by
  simp only [frzM,nth_eq]
  split
  ·rename_i sz v xs hM
   rw [setN_eq]
   obtain ⟨h1,h2,h3,h4⟩:=frzM_ok r (Rel.freeze hM hr)
   refine ⟨(Ext.freeze hM).trans h1,h2,by rw [h3]; simp,fun id hid sz' v' xs' hid'=>?_⟩
   by_cases e:a=id
   ·subst e
    rw [hM] at hid'; injection hid' with hid'; injection hid' with e1 e2 e3
    subst e1; subst e3
    exact frzM_keep r (set_same (lt_of_some hM)) (by intro _ _ _ h; cases h)
   ·rcases List.mem_cons.1 hid with rfl|hid
    ·exact absurd rfl e
    ·exact h4 id hid sz' v' xs' (by rw [set_other e]; exact hid')
  ·rename_i hno
   obtain ⟨h1,h2,h3,h4⟩:=frzM_ok r hr
   refine ⟨h1,h2,h3,fun id hid sz' v' xs' hid'=>?_⟩
   rcases List.mem_cons.1 hid with rfl|hid
   ·exact absurd hid' (hno _ _ _)
   ·exact h4 id hid sz' v' xs' hid'
theorem Rep.frz0 {M':AMem} (hr:Rel j M w) (hx:Ext j M w j M' w) (hr':Rel j M' w) (hl:M'.length=M.length) {x:AVal} {v:Value} (h:Rep j M w x v) (hf:∀id,id∈x.ids0→∀sz v xs,M[id]?=some (.arr sz v xs)→M'[id]?=some (.tick sz xs.length)):Rep j M' w (x.frz0 M) v:=by
 cases x<;>try exact h.mono hx
 rename_i id ver sz lo hi
 simp only [AVal.frz0,nth_eq]
 split
 ·rename_i sz' v' xs hM
  split
  ·rename_i hv
   subst hv
   obtain ⟨_,hid,_,g⟩:=h.aref_inv
   obtain ⟨e1,l1,l2,b,cap,vs,t,l3,l4,l5,l6,l7⟩:=(g sz' v' xs hM).2 rfl
   subst e1
   obtain ⟨b',vs',t',k1,k2,k3,k4,k5⟩:=hr.arr id sz' v' xs hM
   rw [l3] at k1; injection k1 with k1; subst k1
   rw [l4]
   refine .plain (arr_slice k2 k4 k5 (fun b off hs=>(hx.saf b off hs).1) (fun off ho=>⟨hr'.lt id b (by rw [hl]; exact lt_of_some hM) l3,fun i hi hji=>?_,hr'.xdis id b (by rw [hl]; exact lt_of_some hM) l3 off⟩) l1 l2 l5)
   have:i=id:=hr'.inj i id b hi (by rw [hl]; exact lt_of_some hM) hji l3
   subst this
   exact ⟨sz',xs.length,hf i (by simp [AVal.ids0]) _ _ _ hM,ho⟩
  ·exact .any _
 ·exact .any _
theorem Rep.frz {M':AMem} (hr:Rel j M w) (hx:Ext j M w j M' w) (hr':Rel j M' w) (hl:M'.length=M.length) {x:AVal} {v:Value} (h:Rep j M w x v) (hf:∀id,id∈x.ids→∀sz v xs,M[id]?=some (.arr sz v xs)→M'[id]?=some (.tick sz xs.length)):Rep j M' w (x.frz M) v:=by
 by_cases hag:∃cs,x = .agg cs
 ·obtain ⟨cs,rfl⟩:=hag
  obtain ⟨vs,rfl,hl',hc⟩:=h.agg_inv
  refine .agg (by simpa using hl') fun i c u hi hu=>?_
  rw [List.getElem?_map,Option.map_eq_some_iff] at hi
  obtain ⟨c0,hc0,rfl⟩:=hi
  refine (hc i c0 u hc0 hu).frz0 hr hx hr' hl fun id hid=>hf id ?_
  refine List.mem_flatMap.2 ⟨c0,List.mem_of_getElem? hc0,?_⟩
  cases c0<;>first|exact hid|(simp [AVal.ids0] at hid)
 ·have:x.frz M=x.frz0 M:=by cases x<;>first|rfl|exact absurd ⟨_,rfl⟩ hag
  rw [this]
  refine h.frz0 hr hx hr' hl fun id hid=>hf id ?_
  cases x<;>first|exact hid|exact absurd ⟨_,rfl⟩ hag|(simp [AVal.ids0] at hid)
end
section
variable {P:Program} {C:CallF} {o:Oper} {env:Env} {M:AMem} {j:J} {w:World} {a:Act} {x:AVal×AMem}
theorem zeroCells_list (z:Array Value) (n:Nat):(Builtin.zeroCells z n).toList=(List.replicate n z.toList).flatten:=by
 induction n with
 |zero=>simp [Builtin.zeroCells]
 |succ n ih =>
  rw [List.replicate_succ',List.flatten_append,←ih]
  apply List.ext_getElem?
  intro i
  simp only [Builtin.zeroCells,Array.toList_map,Array.toList_range,List.flatten_cons,List.flatten_nil,List.append_nil]
  rcases Nat.lt_or_ge i (n*z.size) with h|h
  ·rw [List.getElem?_append_left (by simpa using h)]
   have h':i<(n+1)*z.size:=by rw [Nat.add_mul]; omega
   simp [List.getElem?_range,h,h']
  ·rw [List.getElem?_append_right (by simpa using h)]
   simp only [List.length_map,List.length_range]
   rcases Nat.lt_or_ge i ((n+1)*z.size) with h2|h2
   ·have h3:i-n*z.size<z.size:=by rw [Nat.add_mul] at h2; omega
    have h4:i % z.size=i-n*z.size:=by
     have:i=(i-n*z.size)+n*z.size:=by omega
     rw [this,Nat.add_mul_mod_self_right,Nat.mod_eq_of_lt h3]; omega
    rw [List.getElem?_map,List.getElem?_range h2]
    simp [h4,h3]
   ·rw [List.getElem?_eq_none (by simpa using h2),List.getElem?_eq_none]
    rw [Nat.add_mul] at h2; simp; omega
theorem flatC_rep (n:Nat) (zero:List AVal):flatC (List.replicate n (.agg zero))=(List.replicate n zero).flatten:=by
 induction n with
 |zero=>rfl
 |succ n ih=>rw [List.replicate_succ,flatC_cons,ih,List.replicate_succ,List.flatten_cons]; rfl
theorem RL_rep {saf:Nat→Nat→Prop} (n:Nat) {cs:List AVal} {us:List Value} (h:RL w saf cs us):RL w saf (List.replicate n cs).flatten (List.replicate n us).flatten:=by
 induction n with
 |zero=>exact ⟨rfl,fun p c v hc=>by simp at hc⟩
 |succ n ih=>rw [List.replicate_succ,List.replicate_succ,List.flatten_cons,List.flatten_cons]; exact h.append ih
theorem arr_put {id b sz ver ver':Nat} {xs xs':List AVal} {vs vs':Array Value} {t:TypeId} {us:List Value} {w':World} (hr:Rel j M w) (hM:M[id]?=some (.arr sz ver xs)) (hj:j id=some b) (q:Quiet w w')
  (hb:∀b',b'≠b→b'<w.heap.size→w'.heap[b']?=w.heap[b']?) (hw:w.heap[b]?=some (.cells vs t (0,0))) (hw':w'.heap[b]?=some (.cells vs' t (0,0))) (hs:vs'.size=vs.size)
  (hv:ver≤ver') (hl:ver'=ver→xs'.length=xs.length) (hwd:wid xs' sz) (hrl:RL w (Saf j M w) (flatC xs') us) (hus:∀p,p<us.length→vs'[p]?=us[p]?) :
  Rel j (M.set id (.arr sz ver' xs')) w'∧Ext j M w j (M.set id (.arr sz ver' xs')) w':=by
 have hwr:∀vs0 t1,w.heap[b]?=some (.cells vs0 t1 (0,0))→∃vs1,w'.heap[b]?=some (.cells vs1 t1 (0,0))∧vs1.size=vs0.size:=fun vs0 t1 h=>by
  rw [hw] at h; injection h with h; injection h with e1 e2
  subst e1; subst e2
  exact ⟨vs',hw',hs⟩
 exact ⟨Rel.arrIn hM hj hr q hb hwr hv hl fun j' M' hx=>arr_of_row hw' hwd (hrl.mono hx.saf) hus,Ext.arrIn hM hj hr q hb hwr hv hl⟩
theorem absL_plain {l:List AVal} {vs:List Value} (hl:absL vs=some l) (hp:(l.map AVal.shut).all AVal.plainCell=true):RL w (Saf j M w) (l.map AVal.shut) vs∧∀v,v∈vs→v.oneCell'=true:=by
 obtain ⟨h1,h2⟩:=absL_rep (j:=j) (M:=M) (w:=w) hl
 rw [List.all_map,List.all_eq_true] at hp
 refine ⟨⟨by simpa using h1,fun p c v hc hv=>?_⟩,fun v hv=>?_⟩
 ·rw [List.getElem?_map,Option.map_eq_some_iff] at hc
  obtain ⟨c0,hc0,rfl⟩:=hc
  exact shut_rep (h2 p c0 v hc0 hv) (hp c0 (List.mem_of_getElem? hc0))
 ·obtain ⟨p,hp',rfl⟩:=List.getElem_of_mem hv
  have hpl:p<l.length:=by omega
  exact cell_one (h2 p _ _ (List.getElem?_eq_getElem hpl) (List.getElem?_eq_getElem hp')) (shut_isCell (hp _ (List.getElem_mem hpl)))
theorem op_clearA (hr:Rel j M w) (he:EnvRep j M w env a) {c:Call} {y:Operand} {z:Opd} {t e:TypeId} {i:TypeInfo} {zv:Value} {l:List AVal} (hop:o.op = .call c) (hb:c.callee = .builtin .clear) (ha:c.args.toList=[y])
  (ht:c.argTypes.toList=[t]) (hs:P.underlying t=some (.slice e)) (hi:P.info? e=some i) (hzv:i.zero=some zv) (hl:absL zv.cells.toList=some l) (hsz:l.length=i.size) (hz:cOpd y=some z)
  (h:aop C env M (.clearA i.size (l.map AVal.shut) z)=some x):∃v w',Ran P o a w v w'∧OpOk j M w x v w':=by
 simp only [aop] at h
 have h1:=opd_rep he hz
 have ha':c.args = #[y]:=by rw [←ha]
 have ht':c.argTypes = #[t]:=by rw [←ht]
 split at h
 ·rename_i tk xs ez
  rw [ez] at h1
  split at h
  ·injection h with h; subst h
   obtain ⟨A,cap,b,off,sz,vs,hv,_⟩:=h1.slice_inv.slice_inv
   refine ⟨.tuple #[],w,.inl ?_,.still hr (.any _)⟩
   cases A<;>simp [execOp,hop,resolve,hb,invoke,builtin,Builtin.clear_,ha',ht',run_und hs,hv]
  ·cases h
 ·rename_i id ver sz' lo hi' ez
  rw [ez] at h1
  rw [nth_eq] at h
  split at h
  ·rename_i sz0 v0 xs hM
   split at h
   ·rename_i hc
    obtain ⟨c1,c2,c3,c4⟩:=hc
    injection h with h; subst h
    subst c1; subst c2
    obtain ⟨_,hid,_,g⟩:=h1.aref_inv
    obtain ⟨e1,l1,l2,b,cap,vs,t0,l3,l4,l5,l6,l7⟩:=(g sz0 v0 xs hM).2 rfl
    subst e1
    obtain ⟨b',vs',t',k1,k2,k3,k4,k5⟩:=hr.arr id _ v0 xs hM
    rw [l3] at k1; injection k1 with k1; subst k1
    rw [l6] at k2; injection k2 with k2; injection k2 with k2 k2'
    subst k2; subst k2'
    obtain ⟨p1,p2⟩:=absL_plain (j:=j) (M:=M) (w:=w) hl c4
    have hzl:zv.cells.toList.length=i.size:=by rw [←p1.1]; simpa using hsz
    have hlen:(List.replicate (hi'-lo) zv.cells.toList).flatten.length=(hi'-lo)*i.size:=by simp [List.length_flatten,List.map_replicate,List.sum_replicate_nat,hzl]
    have hbd:lo*i.size+(hi'-lo)*i.size≤xs.length*i.size:=by rw [←Nat.add_mul]; exact Nat.mul_le_mul_right _ (by omega)
    have hfit:lo*i.size+(List.replicate (hi'-lo) zv.cells.toList).flatten.length≤vs.size:=by rw [hlen]; omega
    have hone:∀v,v∈(List.replicate (hi'-lo) zv.cells.toList).flatten→v.oneCell'=true:=fun v hv=>by
     obtain ⟨r,hr1,hr2⟩:=List.mem_flatten.1 hv
     rw [List.eq_of_mem_replicate hr1] at hr2
     exact p2 v hr2
    have hrun:=storeFrom_run (P:=P) (List.replicate (hi'-lo) zv.cells.toList).flatten w (lo*i.size) 0 vs l6 (by omega) hone
    obtain ⟨s1,s2,s3,s4,s5,vs',s6,s7,s8,s9⟩:=setL_spec (List.replicate (hi'-lo) zv.cells.toList).flatten w (lo*i.size) vs l6 hfit
    have hrow:=arr_row (b:=b) k3 k4 k5
    have hwz:wid (List.replicate (hi'-lo) (AVal.agg (l.map AVal.shut))) i.size:=fun x hx=>by rw [List.eq_of_mem_replicate hx]; simpa [AVal.cells] using hsz
    have hnew:RL w (Saf j M w) (flatC (xs.take lo++(List.replicate (hi'-lo) (AVal.agg (l.map AVal.shut))++xs.drop hi'))) ((vs.toList.take (xs.length*i.size)).take (lo*i.size)++((List.replicate (hi'-lo) zv.cells.toList).flatten++(vs.toList.take (xs.length*i.size)).drop (hi'*i.size))):=by
     rw [flatC_append,flatC_append,flatC_take lo k4,flatC_drop hi' k4,flatC_rep]
     exact (hrow.take _).append ((RL_rep _ p1).append (hrow.drop _))
    have hhi:lo*i.size+(hi'-lo)*i.size=hi'*i.size:=by rw [←Nat.add_mul,Nat.add_sub_cancel' l1]
    have hput:=arr_put (ver':=v0) (xs':=xs.take lo++(List.replicate (hi'-lo) (AVal.agg (l.map AVal.shut))++xs.drop hi')) hr hM l3 (w':=setL w b (lo*i.size) (List.replicate (hi'-lo) zv.cells.toList).flatten) ⟨by omega,s2,s3,s4⟩ (fun b' hb' _=>s5 b' hb') l6 s6 s7 (Nat.le_refl _)
     (fun _=>by simp; omega) (wid_append (wid_take k4) (wid_append hwz (wid_drop k4))) hnew (fun p hp=>by
      have hp':p<xs.length*i.size:=by
       rw [←hnew.1,flatC_length (wid_append (wid_take k4) (wid_append hwz (wid_drop k4)))] at hp
       have:(xs.take lo++(List.replicate (hi'-lo) (AVal.agg (l.map AVal.shut))++xs.drop hi')).length=xs.length:=by simp; omega
       rwa [this] at hp
      have htk:(List.take (lo*i.size) (vs.toList.take (xs.length*i.size))).length=lo*i.size:=by simp; omega
      rcases Nat.lt_or_ge p (lo*i.size) with q1|q1
      ·rw [s8 p (.inl q1),List.getElem?_append_left (by rw [htk]; exact q1),List.getElem?_take_of_lt q1,List.getElem?_take_of_lt hp']; simp
      ·rw [List.getElem?_append_right (by rw [htk]; exact q1),htk]
       rcases Nat.lt_or_ge p (hi'*i.size) with q2|q2
       ·rw [List.getElem?_append_left (by rw [hlen]; omega)]
        have:=s9 (p-lo*i.size) (by rw [hlen]; omega)
        rw [Nat.add_sub_cancel' q1] at this
        exact this
       ·rw [List.getElem?_append_right (by rw [hlen]; omega),s8 p (.inr (by rw [hlen]; omega)),List.getElem?_drop,hlen,show hi'*i.size+(p-lo*i.size-(hi'-lo)*i.size)=p by omega,List.getElem?_take_of_lt hp']; simp)
    rw [setN_eq]
    rcases Nat.eq_zero_or_pos (hi'-lo) with h0|h0
    ·refine ⟨.tuple #[],setL w b (lo*i.size) (List.replicate (hi'-lo) zv.cells.toList).flatten,.inl ?_,j,hput.1,hput.2,.any _⟩
     rw [h0] at l4
     simp [execOp,hop,resolve,hb,invoke,builtin,Builtin.clear_,ha',ht',run_und hs,l4,h0,setL]
    ·refine ⟨.tuple #[],setL w b (lo*i.size) (List.replicate (hi'-lo) zv.cells.toList).flatten,.inl ?_,j,hput.1,hput.2,.any _⟩
     obtain ⟨m,hm⟩:∃m,hi'-lo=m+1:=⟨hi'-lo-1,by omega⟩
     simp only [Nat.add_zero] at hrun
     rw [←zeroCells_list,hm] at hrun
     rw [hm] at l4
     rw [←zeroCells_list,hm]
     simp [execOp,hop,resolve,hb,invoke,builtin,Builtin.clear_,ha',ht',run_und hs,l4,zeroValue,run_info hi,hzv,hrun]
   ·cases h
  ·cases h
 ·cases h
end
end Go.Abs
namespace Go.Abs
open Go Go.RowKit
variable [Globs]
theorem RepP.of_plain {j:J} {M:AMem} {w:World} {x:AVal} {v:Value} (h:Rep j M w x v) (hp:x.plainCell=true):RepP w (Saf j M w) x v:=by
 cases x with
 |slice tk xs=>cases tk with
  |sh=>exact h.slice_inv
  |c0=>cases hp
  |own k=>cases hp
 |bool b=>cases h with|plain h=>exact h
 |int k n=>cases h with|plain h=>exact h
 |str s=>cases h with|plain h=>exact h
 |raw v=>cases h with|plain h=>exact h
 |agg _=>cases hp
 |tuple _=>cases hp
 |ptr _ _=>cases hp
 |rptr _=>cases hp
 |func _ _=>cases hp
 |mref _=>cases hp
 |iref _=>cases hp
 |fmap _ _=>cases hp
 |aref _ _ _ _ _=>cases hp
 |eptr _ _ _ _=>cases hp
 |mfn _ _=>cases hp
 |bself _ _=>cases hp
 |obuf _ _ _ _=>cases hp
 |any=>cases hp
theorem RepD.of_plain {j:J} {M:AMem} {w:World} {x:AVal} {v:Value} (h:Rep j M w x v) (hp:x.plain=true):RepD w (Saf j M w) x v:=by
 by_cases hag:∃cs,x = .agg cs
 ·obtain ⟨cs,rfl⟩:=hag
  obtain ⟨us,h1,h2,h3⟩:=h.agg_inv
  refine ⟨us,h1,h2,fun i c u hc hu => .of_plain (h3 i c u hc hu) ?_⟩
  simp only [AVal.plain,List.all_eq_true] at hp
  exact hp c (List.mem_of_getElem? hc)
 ·have e1:x.plain=x.plainCell:=by cases x<;>first|rfl|exact absurd ⟨_,rfl⟩ hag
  have:=RepP.of_plain h (e1▸hp)
  cases x<;>first|exact absurd ⟨_,rfl⟩ hag|exact this
theorem shutD_rep {j:J} {M:AMem} {w:World} {x:AVal} {v:Value} (h:Rep j M w x v):Rep j M w x.shutD v:=by
 have hs:∀ {x:AVal} {v:Value},Rep j M w x v→Rep j M w x.shut v:=fun {x v} h=>by
  cases x<;>first|exact h|exact .plain h.slice_inv
 by_cases hag:∃cs,x = .agg cs
 ·obtain ⟨cs,rfl⟩:=hag
  obtain ⟨us,rfl,h2,h3⟩:=h.agg_inv
  refine .agg (by simpa using h2) fun i c u hc hu=>?_
  rw [List.getElem?_map,Option.map_eq_some_iff] at hc
  obtain ⟨c0,hc0,rfl⟩:=hc
  exact hs (h3 i c0 u hc0 hu)
 ·cases x<;>first|exact absurd ⟨_,rfl⟩ hag|exact h|exact .plain h.slice_inv
section
variable {P:Program} {C:CallF} {o:Oper} {env:Env} {M:AMem} {j:J} {w:World} {a:Act} {x:AVal×AMem}
theorem op_bindF (hr:Rel j M w) (he:EnvRep j M w env a) {f:Nat} {first caps:Array Operand} {zs:List Opd} (hop:o.op = .makeFunc (.func f) first caps) (hf:caps.isEmpty=true) (hz:cOpds first.toList=some zs)
  (h:aop C env M (.bindF f zs)=some x):∃v w',Ran P o a w v w'∧OpOk j M w x v w':=by
 simp only [aop] at h
 split at h
 ·rename_i hp
  injection h with h; subst h
  obtain ⟨h1,h2⟩:=opds_rep he hz
  have hf':caps = #[]:=by simpa using hf
  refine ⟨.func (.func f) (first.map a.eval) #[],w,.inl ?_,.still hr (.mfn (by simpa using h1) fun i c v hc hv=>?_)⟩
  ·simp [execOp,hop,Instr.makeFunc,hf']
  ·have hpc:=List.all_eq_true.1 hp c (List.mem_of_getElem? hc)
   rw [List.getElem?_map,Option.map_eq_some_iff] at hc
   obtain ⟨y,hy,rfl⟩:=hc
   rw [Array.getElem?_map,Option.map_eq_some_iff] at hv
   obtain ⟨z,hz',rfl⟩:=hv
   exact .of_plain (shutD_rep (h2 i y z hy (by simpa using hz'))) hpc
 ·cases h
theorem op_iaddrA (hr:Rel j M w) (he:EnvRep j M w env a) {y i:Operand} {z z':Opd} {t e:TypeId} {len n:Nat} (hop:o.op = .indexAddr t y i) (ht:P.underlying t=some (.array len e)) (hn:szOf P e=some n)
  (hz:cOpd y=some z) (hz':cOpd i=some z') (h:aop C env M (.iaddrA len n z z')=some x):∃v w',Ran P o a w v w'∧OpOk j M w x v w':=by
 simp only [aop] at h
 have h1:=opd_rep he hz
 have h2:=opd_rep he hz'
 split at h
 ·rename_i cs k m ez ez'
  obtain ⟨⟨h0,hm,hle⟩,h⟩:=owhen_inv h
  injection h with h; subst h
  rw [ez] at h1
  rw [ez'] at h2
  obtain ⟨b,off,vs,hv,hc⟩:=h1.rptr_inv
  refine ⟨.pointer (some ⟨b,off+m.toNat*n,none⟩),w,.inl ?_,.still hr (.rptr (vs:=fun q=>vs (m.toNat*n+q)) fun q c hq=>?_)⟩
  ·simp [execOp,hop,Instr.indexAt,run_und ht,hv,h2.int_inv,asIntOf,h0,hm,run_size hn,addr_add,Instr.sureAddr]
  ·rw [List.getElem?_drop] at hq
   have h3:=hc _ c hq
   rw [Nat.add_assoc]
   exact h3
 ·cases h
theorem op_indexA (hr:Rel j M w) (he:EnvRep j M w env a) {y i:Operand} {z z':Opd} {t e:TypeId} {len:Nat} (hop:o.op = .index t y i) (ht:P.underlying t=some (.array len e)) (hn:szOf P e=some 1) (hg:aggQ P e=some false)
  (hz:cOpd y=some z) (hz':cOpd i=some z') (h:aop C env M (.indexA len z z')=some x):∃v w',Ran P o a w v w'∧OpOk j M w x v w':=by
 simp only [aop] at h
 have h1:=opd_rep he hz
 have h2:=opd_rep he hz'
 split at h
 ·rename_i cs k m ez ez'
  obtain ⟨⟨h0,hm⟩,h⟩:=owhen_inv h
  obtain ⟨c,hc,h⟩:=obind_inv h
  injection h with h; subst h
  rw [ez] at h1
  rw [ez'] at h2
  obtain ⟨us,hv,hl,hu⟩:=h1.agg_inv
  have hi:=lt_of_some hc
  have hui:us[m.toNat]?=some (us[m.toNat]'(by omega)):=Array.getElem?_eq_getElem (by omega)
  refine ⟨_,w,.inl ?_,.still hr (hu _ c _ hc hui)⟩
  simp [execOp,hop,Instr.index,run_und ht,hv,h2.int_inv,asIntOf,h0,hm,run_size hn,part,run_isAgg hg,hui]
 ·cases h
theorem op_s2b (hr:Rel j M w) (he:EnvRep j M w env a) {y:Operand} {z:Opd} {s d e:TypeId} (hop:o.op = .convert s d y) (hs:P.underlying s=some .string) (hd:P.underlying d=some (.slice e)) (hu:P.underlying e=some (.int .u8))
  (hz:cOpd y=some z) (h:aop C env M (.s2b z)=some x):∃v w',Ran P o a w v w'∧OpOk j M w x v w':=by
 simp only [aop] at h
 have h1:=opd_rep he hz
 split at h
 ·rename_i l ev
  injection h with h; subst h
  rw [ev] at h1
  have hv:=h1.str_inv
  have hrun:=run_bytes_of_string (P:=P) w s d e (bs l) hs hd hu
  generalize hcap:grownCap w (bs l).size 0 e=cap at hrun
  rw [bs_size] at hrun
  have hle:l.length≤cap:=by
   rw [←hcap,bs_size]; simp [grownCap,Question.cut]
  generalize hrow:bytesRow (bs l) cap=row at hrun
  have hb:∀b,b<w.heap.size→(w.drew.alloc (.cells row e (row.size,row.size+1))).heap[b]?=w.heap[b]?:=fun b hb=>by
   show (w.heap.push _)[b]?=_
   rw [Array.getElem?_push,if_neg (by omega)]
  have hsz:w.heap.size≤(w.drew.alloc (.cells row e (row.size,row.size+1))).heap.size:=by
   show _≤(w.heap.push _).size; simp
  have hcell:∀p u,l[p]?=some u→(w.drew.alloc (.cells row e (row.size,row.size+1))).cell? ⟨w.heap.size,p,none⟩=some (.int .u8 u.toNat):=fun p u hp=>by
   have h2:(w.drew.alloc (.cells row e (row.size,row.size+1))).heap[w.heap.size]?=some (.cells row e (row.size,row.size+1)):=by
    show (w.heap.push _)[w.heap.size]?=_
    simp
   simp only [World.cell?,h2]
   rw [←hrow]
   have hpl:=lt_of_some hp
   unfold bytesRow
   rw [Array.getElem?_append_left (by simpa [bs] using hpl)]
   simp [bs,hp]
  refine ⟨_,_,.inl (by simp only [execOp,hop,hv,Sem.run_bind,hrun]; rfl),j,hr.grow hsz rfl rfl rfl hb,Ext.grow hsz rfl rfl rfl hb,.plain ?_⟩
  refine .slice _ _ _ _ w.heap.size 0 1 (fun p => .int .u8 ((l[p]?).getD 0).toNat) (by simp) hle (fun _=>rfl) (fun y hy=>?_) (fun i y k c hi hk=>?_) (fun i y k c hi hk=>?_)
  ·obtain ⟨u,_,rfl⟩:=List.mem_map.1 hy
   rfl
  ·rw [List.getElem?_map,Option.map_eq_some_iff] at hi
   obtain ⟨u,hu',rfl⟩:=hi
   match k with
   |0 =>
    simp only [Nat.mul_one,Nat.add_zero,Nat.zero_add,hu',Option.getD_some]
    refine ⟨hcell i u hu',⟨?_,fun id hid hj=>?_,fun hx=>?_⟩⟩
    ·show w.heap.size<(w.heap.push _).size; simp
    ·exact absurd (hr.lt id _ hid hj) (Nat.lt_irrefl _)
    ·exact absurd (hr.xlt _ _ hx) (Nat.lt_irrefl _)
   |k+1=>simp [AVal.cells,u8V] at hk
  ·rw [List.getElem?_map,Option.map_eq_some_iff] at hi
   obtain ⟨u,hu',rfl⟩:=hi
   match k with
   |0 =>
    simp [AVal.cells,u8V] at hk
    subst hk
    simp only [Nat.mul_one,Nat.add_zero,hu',Option.getD_some]
    exact .int _ _
   |k+1=>simp [AVal.cells,u8V] at hk
 ·cases h
theorem wid_u8 (l:List UInt8):wid (l.map u8V) 1:=fun x hx=>by
 obtain ⟨b,_,rfl⟩:=List.mem_map.1 hx
 rfl
theorem obuf_core (hr:Rel j M w) {c:Call} {y y':Operand} {t t' e:TypeId} {d':TypeDesc} {i:TypeInfo} {zv:Value} (hop:o.op = .call c) (hb:c.callee = .builtin .append) (ha:c.args.toList=[y,y'])
  (hat:c.argTypes = #[t,t']) (hs:P.underlying t=some (.slice e)) (hs':P.underlying t'=some d') (hd':∀k,d' ≠ .int k) (hi:P.info? e=some i) (hz:i.zero=some zv) (hzs:zv.cells.size=i.size) (hpos:i.size=1) (hb0:i.bytes=1)
  {k te:Nat} {xb:Bool} {l m:List UInt8} (r1:Rep j M w (.obuf k te xb l) (a.eval y)) (hlen:∀w':World,(Builtin.lenOf (a.eval y')).run P w' = .ok m.length w') {uy:Nat→Value}
  (fy1:∀w':World,w'.heap=w.heap→(Builtin.firstCells i.size m.length (a.eval y')).run P w' = .ok (((List.range (m.length*i.size)).map uy).toArray) w')
  (fy2:∀(q:Nat) (y:AVal) (k:Nat) (c:AVal),(m.map u8V)[q]?=some y→y.cells[k]?=some c→RepP w (Saf j M w) c (uy (q*i.size+k)))
  (h:(match nth M k with
   |some (.tick sz n)=>owhen (sz=1∧te=e∧n=l.length∧roomOk (l.length+m.length) 1) (some (AVal.obuf k te xb (l++m),setN M k (.tick 1 (l.length+m.length))))
   |_=>none)=some x):∃v w',Ran P o a w v w'∧OpOk j M w x v w':=by
 split at h
 ·rename_i sz n hM
  obtain ⟨⟨h1,h2,h3,h4⟩,h5⟩:=owhen_inv h
  subst h1; subst h2; subst h3
  injection h5 with h5
  subst h5
  rw [nth_eq] at hM
  obtain ⟨n0,g1,g2,g3,g4⟩:=r1.obuf_inv
  rw [hM] at g1; injection g1 with g1; injection g1 with _ g1; subst g1
  have hT:=g4 rfl
  have hown:Rep j M w (.slice (.own k) (l.map u8V)) (a.eval y):=by
   refine .own (sz:=1) (n:=l.length) hM (by simp) g3 fun _=>?_
   rcases hT with ⟨q1,q2,q3⟩|⟨b,cap,vs,q0,q1,q2,q3,q4,q5⟩
   ·exact .inl ⟨q1,q2,q3.imp fun _ h=>h.1⟩
   ·exact .inr ⟨b,cap,vs,te,q1,q2,q3,by omega,q5⟩
  obtain ⟨v,w',j',k1,k2,k3,k4,k5,k6⟩:=append_core (ys:=m.map u8V) (uy:=uy) (x:=(.slice (.own k) (l.map u8V++m.map u8V),setN M k (.tick 1 (l.length+m.length)))) hr hop hb ha hat hs hs' hd' hi hz hzs (by omega) (by omega) (by omega) hown
   (fun w'=>by simpa using hlen w') (fun w' hw'=>by simpa using fy1 w' hw') fy2 (by
    rw [owhen_pos ⟨by rw [hb0]; simpa using h4,by rw [hpos]; exact wid_u8 l,by rw [hpos]; exact wid_u8 m⟩]
    simp only [nth_eq,hM]
    rw [owhen_pos ⟨hpos.symm,by simp⟩]
    simp [hpos])
  refine ⟨v,w',k1,j',k2,k3,?_⟩
  obtain ⟨sz',n',p1,p2,p3,p4⟩:=k4.own_inv
  have hset:(setN M k (.tick 1 (l.length+m.length)))[k]?=some (.tick 1 (l.length+m.length)):=by rw [setN_eq]; exact set_same (lt_of_some hM)
  simp only at p1
  rw [hset] at p1; injection p1 with p1; injection p1 with e1 e2
  subst e1; subst e2
  refine .obuf hset (by simp) (by simpa using p3) fun _=>?_
  by_cases hm:m=[]
  ·subst hm
   have hv:=k5 rfl
   obtain ⟨hv,hj0⟩:=hv
   have hj0:=hj0 k rfl
   subst hj0
   rcases hT with ⟨q1,q2,q3⟩|⟨b,cap,vs,q0,q1,q2,q3,q4,q5⟩
   ·exact .inl ⟨q1,by simpa using q2,by rw [hv]; exact q3⟩
   ·rcases p4 (by simp) with ⟨u1,u2,A,u3⟩|⟨b',cap',vs',t',u1,u2,u3,u4,u5⟩
    ·have u2':l.length+([]:List UInt8).length=0:=u2
     rw [List.length_nil] at u2'; omega
    ·have htag:=k6 k b' rfl u1
     have:t'=te:=by
      rcases htag with h|⟨vs2,h⟩
      ·rw [q1] at h; injection h with h; subst h
       obtain ⟨vs3,fr3,h,_⟩:=k3.tags _ _ _ _ q3
       rw [u3] at h; injection h with h; injection h
      ·rw [u3] at h; injection h with h; injection h
     subst this
     exact .inr ⟨b',cap',vs',by simp; omega,u1,u2,u3,by omega,u5⟩
  ·have hml:0<m.length:=List.length_pos_iff.2 hm
   rcases p4 (by simp) with ⟨u1,u2,A,u3⟩|⟨b',cap',vs',t',u1,u2,u3,u4,u5⟩
   ·omega
   ·have htag:=k6 k b' rfl u1
    have:t'=te:=by
     rcases htag with h|⟨vs2,h⟩
     ·rcases hT with ⟨q1,q2,q3⟩|⟨b,cap,vs,q0,q1,q2,q3,q4,q5⟩
      ·rw [q1] at h; cases h
      ·rw [q1] at h; injection h with h; subst h
       obtain ⟨vs3,fr3,h,_⟩:=k3.tags _ _ _ _ q3
       rw [u3] at h; injection h with h; injection h
     ·rw [u3] at h; injection h with h; injection h
    subst this
    exact .inr ⟨b',cap',vs',by omega,u1,u2,u3,by omega,u5⟩
 ·cases h
theorem op_appendS (hr:Rel j M w) (he:EnvRep j M w env a) {c:Call} {y y':Operand} {z z':Opd} {t t' e:TypeId} {i:TypeInfo} {zv:Value} (hop:o.op = .call c) (hb:c.callee = .builtin .append) (ha:c.args.toList=[y,y'])
  (hat:c.argTypes = #[t,t']) (hs:P.underlying t=some (.slice e)) (hs':P.underlying t'=some .string) (hi:P.info? e=some i) (hz:i.zero=some zv) (hzs:zv.cells.size=i.size) (hpos:i.size=1) (hb0:i.bytes=1)
  (hzy:cOpd y=some z) (hzy':cOpd y'=some z') (h:aop C env M (.appendS e z z')=some x):∃v w',Ran P o a w v w'∧OpOk j M w x v w':=by
 simp only [aop] at h
 have r1:=opd_rep he hzy
 have r2:=opd_rep he hzy'
 split at h
 ·rename_i k te xb l m ez ez'
  rw [ez] at r1
  rw [ez'] at r2
  have hv':=r2.str_inv
  refine obuf_core hr hop hb ha hat hs hs' (fun k h=>by cases h) hi hz hzs hpos hb0 r1 (m:=m) (uy:=fun p => .int .u8 ((m[p]?).getD 0).toNat) (fun w'=>?_) (fun w' _=>?_) (fun q y k c hq hk=>?_) h
  ·rw [hv']; simp [Builtin.lenOf,bs_size]
  ·rw [hv']
   simp only [Builtin.firstCells,Sem.run_pure,hpos,Nat.mul_one]
   congr 1
   rw [show ((bs m).extract 0 m.length)=bs m by rw [bs_extract]; simp]
   apply Array.ext'
   simp only [bs,Array.toList_map]
   apply List.ext_getElem?
   intro p
   rw [List.getElem?_map,List.getElem?_map]
   rcases Nat.lt_or_ge p m.length with hp|hp
   ·simp [hp,List.getElem?_eq_getElem hp]
   ·rw [List.getElem?_eq_none (by simpa using hp),List.getElem?_eq_none (by simpa using hp)]
    rfl
  ·rw [List.getElem?_map,Option.map_eq_some_iff] at hq
   obtain ⟨b,hb',rfl⟩:=hq
   cases k with
   |zero =>
    simp [AVal.cells,u8V] at hk
    subst hk
    simp only [hpos,Nat.mul_one,Nat.add_zero,hb',Option.getD_some]
    exact .int _ _
   |succ k=>simp [AVal.cells,u8V] at hk
 ·cases h
theorem op_appendB (hr:Rel j M w) (he:EnvRep j M w env a) {c:Call} {y y':Operand} {z z':Opd} {t t' e e':TypeId} {i:TypeInfo} {zv:Value} (hop:o.op = .call c) (hb:c.callee = .builtin .append) (ha:c.args.toList=[y,y'])
  (hat:c.argTypes = #[t,t']) (hs:P.underlying t=some (.slice e)) (hs':P.underlying t'=some (.slice e')) (hi:P.info? e=some i) (hz:i.zero=some zv) (hzs:zv.cells.size=i.size) (hpos:i.size=1) (hb0:i.bytes=1)
  (hzy:cOpd y=some z) (hzy':cOpd y'=some z') (h:aop C env M (.appendB e z z')=some x):∃v w',Ran P o a w v w'∧OpOk j M w x v w':=by
 simp only [aop] at h
 have r1:=opd_rep he hzy
 have r2:=opd_rep he hzy'
 split at h
 ·rename_i k te xb l tk ys ez ez'
  obtain ⟨m,hm,h⟩:=obind_inv h
  rw [ez] at r1
  rw [ez'] at r2
  have p2:=r2.slice_inv
  obtain ⟨hys,h9⟩:=owhen_inv h
  clear h
  subst hys
  obtain ⟨uy,fy1,fy2,_⟩:=first_run (P:=P) p2 (show wid (m.map u8V) i.size by rw [hpos]; exact wid_u8 m) (by omega)
  obtain ⟨A,cap',_,_,_,_,hv',_⟩:=p2.slice_inv
  exact obuf_core hr hop hb ha hat hs hs' (fun k h=>by cases h) hi hz hzs hpos hb0 r1 (m:=m) (uy:=uy) (fun w'=>by rw [hv',List.length_map]; rfl) (fun w' hw'=>by simpa using fy1 w' hw') fy2 h9
 ·cases h
theorem new_boxO (hr:Rel j M w) {t e:TypeId} {xb:Bool} {rest:List AVal} {us:List Value} {A:Option Addr} (hA:xb=true→A=none) (hl:rest.length=us.length) (hc:∀(i:Nat) (c:AVal) (v:Value),rest[i]?=some c→us[i]?=some v→Rep j M w c v) :
  OpOk j M w (.ptr (M.length+1) 0,M++[.tick 1 0,.cells (.bself (M.length+1) t :: .obuf M.length e xb []::rest)]) (.pointer (some ⟨w.heap.size,0,none⟩)) { w with heap:=w.heap.push (.cells (Value.pointer none :: .slice A 0 0::us).toArray t (0,0)) }:=by
 have q:Quiet w w:=⟨Nat.le_refl _,rfl,rfl,rfl⟩
 have hr1:Rel (upd j M.length none) (M++[.tick 1 0]) w:=hr.push (ob:=none) (fun b h=>by cases h) q (fun _ _=>rfl) (fun h=>by cases h) (fun sz n b h h'=>by cases h')
 have hx1:Ext j M w (upd j M.length none) (M++[.tick 1 0]) w:=Ext.push (fun b h=>by cases h) q (fun _ _=>rfl)
 generalize hzv:(Value.pointer none :: .slice A 0 0::us).toArray=zv
 have q2:Quiet w { w with heap:=w.heap.push (.cells zv t (0,0)) }:=⟨by simp,rfl,rfl,rfl⟩
 have hb:∀b,b<w.heap.size→({ w with heap:=w.heap.push (.cells zv t (0,0)) }:World).heap[b]?=w.heap[b]?:=fun b hb=>by
  show (w.heap.push _)[b]?=_
  rw [Array.getElem?_push,if_neg (by omega)]
 have hn:({ w with heap:=w.heap.push (.cells zv t (0,0)) }:World).heap[w.heap.size]?=some (.cells zv t (0,0)):=by simp
 have hob:∀b,some w.heap.size=some b→w.heap.size≤b∧b<({ w with heap:=w.heap.push (.cells zv t (0,0)) }:World).heap.size:=fun b h=>by
  injection h with h; subst h; exact ⟨Nat.le_refl _,by simp⟩
 have hx2:Ext (upd j M.length none) (M++[.tick 1 0]) w (upd (upd j M.length none) (M++[ABox.tick 1 0]).length (some w.heap.size)) (M++[.tick 1 0]++[.cells (.bself (M.length+1) t :: .obuf M.length e xb []::rest)]) { w with heap:=w.heap.push (.cells zv t (0,0)) } :=
  Ext.push (fun b h=>(hob b h).1) q2 hb
 have hr2:Rel (upd (upd j M.length none) (M++[ABox.tick 1 0]).length (some w.heap.size)) (M++[.tick 1 0]++[.cells (.bself (M.length+1) t :: .obuf M.length e xb []::rest)]) { w with heap:=w.heap.push (.cells zv t (0,0)) }:=by
  refine hr1.pushF hob q2 hb (fun _=>⟨_,rfl,fun hx=>⟨zv,t,hn,?_,fun i c v hc' hv=>?_⟩⟩) (fun sz n b h=>by cases h)
  ·rw [←hzv]; simp [hl]
  ·match i,hc' with
   |0,hc' =>
    injection hc' with hc'; subst hc'
    rw [←hzv] at hv
    have:v = .pointer none:=by simpa using hv.symm
    subst this
    exact .bself (b:=w.heap.size) ⟨.bself (M.length+1) t :: .obuf M.length e xb []::rest,by simp⟩ (by simp [upd]) ⟨_,_,hn⟩ (.inl rfl)
   |1,hc' =>
    injection hc' with hc'; subst hc'
    rw [←hzv] at hv
    have:v = .slice A 0 0:=by simpa using hv.symm
    subst this
    exact .obuf (n:=0) (by simp) (by simp) (RepP.nil _ _ _) fun _ => .inl ⟨by simp [upd],rfl,A,rfl,hA⟩
   |i+2,hc' =>
    have hc2:rest[i]?=some c:=hc'
    rw [←hzv] at hv
    exact (hc i c v hc2 (by simpa using hv)).mono (hx1.trans hx)
 refine ⟨upd (upd j M.length none) (M++[ABox.tick 1 0]).length (some w.heap.size),?_,?_,?_⟩
 ·simpa using hr2
 ·simpa using hx1.trans hx2
 ·have hp:Rep (upd (upd j M.length none) (M++[ABox.tick 1 0]).length (some w.heap.size)) (M++[.tick 1 0]++[.cells (.bself (M.length+1) t :: .obuf M.length e xb []::rest)]) { w with heap:=w.heap.push (.cells zv t (0,0)) } (.ptr (M.length+1) 0) (.pointer (some ⟨w.heap.size,0,none⟩)) :=
   .ptr (by simp) ⟨.bself (M.length+1) t :: .obuf M.length e xb []::rest,by simp⟩ (by simp [upd])
  simpa using hp
theorem two_cells {rest:List AVal} {vs:Array Value} (hl:rest.length+2=vs.size) (hc:∀(i:Nat) (c:AVal) (v:Value),(AVal.raw (.pointer none) :: .slice .c0 []::rest)[i]?=some c→vs[i]?=some v→Rep j M w c v) :
  ∃A us,vs=(Value.pointer none :: .slice A 0 0::us).toArray∧rest.length=us.length∧∀(i:Nat) (c:AVal) (v:Value),rest[i]?=some c→us[i]?=some v→Rep j M w c v:=by
 obtain ⟨l⟩:=vs
 match l,hl with
 |v0::v1::us,hl =>
  have h0:=hc 0 _ v0 rfl rfl
  have h1:=hc 1 _ v1 rfl rfl
  have e0:v0 = .pointer none:=by
   cases h0 with
   |plain h=>cases h; rfl
  obtain ⟨A,e1⟩:=h1.c0_inv
  subst e0; subst e1
  exact ⟨A,us,rfl,by simpa using hl,fun i c v h2 h3=>hc (i+2) c v h2 (by simpa using h3)⟩
 | [v0],hl=>simp at hl
 | [],hl=>simp at hl
theorem op_boxO (hr:Rel j M w) {t e:TypeId} {i:TypeInfo} {zv:Value} {l:List AVal} (hop:o.op = .alloc t) (hi:P.info? t=some i) (hzv:i.zero=some zv) (hl:absL zv.cells.toList=some l)
  (h:aop C env M (.boxO t e l)=some x):∃v w',Ran P o a w v w'∧OpOk j M w x v w':=by
 simp only [aop] at h
 split at h
 ·rename_i rest
  injection h with h; subst h
  obtain ⟨h1,h2⟩:=absL_rep (j:=j) (M:=M) (w:=w) hl
  obtain ⟨A,us,e1,e2,e3⟩:=two_cells (vs:=zv.cells) (by simpa using h1) (fun i c v hc hv=>h2 i c v hc (by simpa using hv))
  have hA:A=none:=by
   rw [e1] at hl
   simp only [absL] at hl
   rw [Option.bind_eq_some_iff] at hl
   obtain ⟨x0,_,hl⟩:=hl
   rw [Option.bind_eq_some_iff] at hl
   obtain ⟨l1,hl1,_⟩:=hl
   rw [Option.bind_eq_some_iff] at hl1
   obtain ⟨x1,hx1,_⟩:=hl1
   cases A with
   |none=>rfl
   |some a=>simp [absV] at hx1
  refine ⟨.pointer (some ⟨w.heap.size,0,none⟩),{ w with heap:=w.heap.push (.cells zv.cells t (0,0)) },.inl (by simp [execOp,hop,Instr.alloc,zeroValue,run_info hi,hzv,newVar,newRow]),?_⟩
  rw [e1]
  exact new_boxO hr (fun _=>hA) e2 e3
 ·cases h
theorem op_boxW (hr:Rel j M w) (he:EnvRep j M w env a) {t e:TypeId} {y:Operand} {z:Opd} (hop:o.op = .box t y) (hz:cOpd y=some z)
  (h:aop C env M (.boxW t e z)=some x):∃v w',Ran P o a w v w'∧OpOk j M w x v w':=by
 simp only [aop] at h
 have h1:=opd_rep he hz
 split at h
 ·rename_i cs ev
  split at h
  ·rename_i rest
   injection h with h; subst h
   rw [ev] at h1
   obtain ⟨vs,hv,hl,hc⟩:=h1.agg_inv
   obtain ⟨A,us,e1,e2,e3⟩:=two_cells (vs:=vs) (by simpa using hl) hc
   refine ⟨.pointer (some ⟨w.heap.size,0,none⟩),{ w with heap:=w.heap.push (.cells vs t (0,0)) },.inl (by simp [execOp,hop,Instr.box,newVar,newRow,hv,Value.cells]),?_⟩
   rw [e1]
   exact new_boxO hr (fun h=>by cases h) e2 e3
  ·cases h
 ·cases h
theorem own_ghost (hr:Rel j M w) {id q sz:Nat} {cs:List AVal} (hM:M[id]?=some (.cells cs)) (hc:cs[q]?=some (.slice .c0 [])) :
  ∃j',Rel j' (M.set id (.cells (cs.set q (.slice (.own M.length) [])))++[.tick sz 0]) w∧Ext j M w j' (M.set id (.cells (cs.set q (.slice (.own M.length) [])))++[.tick sz 0]) w:=by
 have q0:Quiet w w:=⟨Nat.le_refl _,rfl,rfl,rfl⟩
 have hr1:Rel (upd j M.length none) (M++[.tick sz 0]) w:=hr.push (ob:=none) (fun b h=>by cases h) q0 (fun _ _=>rfl) (fun h=>by cases h) (fun sz n b h h'=>by cases h')
 have hx1:Ext j M w (upd j M.length none) (M++[.tick sz 0]) w:=Ext.push (fun b h=>by cases h) q0 (fun _ _=>rfl)
 have hid:=lt_of_some hM
 have hM1:(M++[ABox.tick sz 0])[id]?=some (.cells cs):=by rw [app_old hid]; exact hM
 obtain ⟨b,vs,t,hj,hw,hl,hcs⟩:=hr.box id cs hM
 have hj1:upd j M.length none id=some b:=by simp [upd,Nat.ne_of_lt hid,hj]
 have hset:M.set id (ABox.cells (cs.set q (.slice (.own M.length) [])))++[ABox.tick sz 0]=(M++[ABox.tick sz 0]).set id (ABox.cells (cs.set q (.slice (.own M.length) []))):=by rw [List.set_append_left _ _ hid]
 rw [hset]
 have hh:∀j' M',Ext (upd j M.length none) (M++[.tick sz 0]) w j' M' w→Holds j' M' w b (.cells (cs.set q (.slice (.own M.length) []))):=fun j' M' hx=>⟨vs,t,hw,by simpa using hl,fun p c v hc' hv=>Rep.mono hx ?_⟩
 ·exact ⟨_,Rel.store hM1 rfl rfl hj1 hr1 q0 (fun _ _ _=>rfl) (fun vs t fr h=>⟨vs,fr,h,rfl⟩) hh,hx1.trans (Ext.store hM1 rfl rfl hj1 hr1 q0 (fun _ _ _=>rfl) (fun vs t fr h=>⟨vs,fr,h,rfl⟩))⟩
 ·by_cases hp:q=p
  ·subst hp
   rw [List.getElem?_set_self (lt_of_some hc)] at hc'
   injection hc' with hc'; subst hc'
   have h1:=hcs q _ v hc hv
   obtain ⟨A,hA⟩:∃A,v = .slice A 0 0:=by
    cases h1 with
    |plain h=>cases h
    |c0 A=>exact ⟨A,rfl⟩
   rw [hA]
   exact .own (sz:=sz) (n:=0) (by simp) (by simp) (RepP.nil _ _ _) fun _ => .inl ⟨by simp [upd],rfl,A,rfl⟩
  ·rw [List.getElem?_set_ne hp] at hc'
   exact Rep.mono hx1 (hcs p c v hc' hv)
theorem writeAt_set {cs new:List AVal} {off p:Nat} {x:AVal} (h:off+new.length≤cs.length) (hp:p<new.length):writeAt cs off (new.set p x)=(writeAt cs off new).set (off+p) x:=by
 apply List.ext_getElem?
 intro i
 rw [writeAt_get (by simpa using h)]
 by_cases hi:off+p=i
 ·subst hi
  rw [List.getElem?_set_self (by rw [writeAt_len h]; omega),if_pos (by simp; omega),show off+p-off=p by omega,List.getElem?_set_self hp]
 ·rw [List.getElem?_set_ne hi,writeAt_get h]
  simp only [List.length_set]
  split
  ·rename_i hc
   rw [List.getElem?_set_ne (by omega)]
  ·rfl
theorem op_storeO (hr:Rel j M w) (he:EnvRep j M w env a) {y y':Operand} {z z':Opd} {t:TypeId} {n sz p:Nat} (hop:o.op = .store t y y') (hn:szOf P t=some n) (hz:cOpd y=some z) (hz':cOpd y'=some z')
  (h:aop C env M (.storeO sz p n z z')=some x):∃v w',Ran P o a w v w'∧OpOk j M w x v w':=by
 simp only [aop] at h
 split at h
 ·rename_i id off e
  split at h
  ·rename_i cs hM
   obtain ⟨new,hnew,h⟩:=obind_inv h
   split at h
   ·rename_i hp
    split at h
    ·rename_i hcond
     injection h with h; subst h
     have hs:aop C env M (.store n z z')=some (.any,setN M id (.cells (writeAt cs off new))):=by
      simp only [aop,e,hM,hnew,obind_some]
      rw [if_pos hcond]
     obtain ⟨v,w',h1,j',h2,h3,h4⟩:=op_store hr he hop hn hz hz' hs
     rw [nth_eq] at hM hp
     have hlt:=lt_of_some hM
     have hpl:=lt_of_some hp
     have hle:off+new.length≤cs.length:=by omega
     rw [setN_eq] at h2 h3 h4
     have hM2:(M.set id (.cells (writeAt cs off new)))[id]?=some (.cells (writeAt cs off new)):=set_same hlt
     have hc2:(writeAt cs off new)[off+p]?=some (.slice .c0 []):=by
      rw [writeAt_get hle,if_pos (by omega),show off+p-off=p by omega]
      exact hp
     obtain ⟨j'',k1,k2⟩:=own_ghost (sz:=sz) h2 hM2 hc2
     rw [List.set_set,List.length_set] at k1 k2
     rw [setN_eq,setN_eq,writeAt_set hle hpl]
     exact ⟨v,w',h1,j'',k1,h3.trans k2,.any _⟩
    ·cases h
   ·cases h
  ·cases h
 ·cases h
end
end Go.Abs
namespace Go.Abs
open Go Go.RowKit
variable [Globs]
section
variable {P:Program} {C:CallF} {own:List Nat} {o:Oper} {ao:AOp} {env:Env} {M:AMem} {j:J} {w:World} {a:Act} {x:AVal×AMem}
def OpRuns (P:Program) (o:Oper) (a:Act) (w:World) (K:Act→World→Prop):Prop :=
 (∃v w',Ran P o a w v w'∧K (a.put o.dst v) w')∨∃f us,(execOp a.eval o).run P w = .ok (.enter f us) w∧Calls P f us w fun e w'=>∃v,e = .returned v∧K (a.put o.dst v) w'
theorem wp_ran {K:Act→World→Prop} (h:∃v w',Ran P o a w v w'∧OpOk j M w x v w') (hK:∀v w',OpOk j M w x v w'→K (a.put o.dst v) w'):OpRuns P o a w K:=by
 obtain ⟨v,w',h1,h2⟩:=h
 exact .inl ⟨v,w',h1,hK v w' h2⟩
theorem wp_call {K:Act→World→Prop} {f:Nat} {us:Array Value} (hrun:(execOp a.eval o).run P w = .ok (.enter f us) w)
  (h:Calls P f us w fun e w'=>∃v,e = .returned v∧OpOk j M w x v w') (hK:∀v w',OpOk j M w x v w'→K (a.put o.dst v) w'):OpRuns P o a w K :=
 .inr ⟨f,us,hrun,h.mono fun e w' ⟨v,he,hv⟩=>⟨v,he,hK v w' hv⟩⟩
def Wd (r:Option Nat):Fence:={ Fence.wide with round:=r }
theorem callsIn_Wd {r:Option Nat} {n f:Nat} {args:Array Value} {R:Ending→World→Prop} (h:Calls P f args w R):CallsIn (Wd r) n P f args w R:=by
 cases r with
 |none=>exact callsIn_wide.2 h
 |some l=>exact CallsIn.inRound l (callsIn_wide.2 h)
theorem OpRuns.wpIn {K:Act→World→Prop} {Q:Exit→Act→World→Prop} {r:Option Nat} {n:Nat} (hd:∀c,o.op ≠ .defer c) (h:OpRuns P o a w K):o.wpIn (Wd r) n P a w K Q:=by
 refine ⟨fun _ _=>trivial,?_⟩
 rw [Oper.semAt_eq _ _ _ hd]
 rcases h with ⟨v,w',h1|⟨h1,rfl⟩,h2⟩|⟨f,us,h1,h2⟩
 ·rw [h1]; exact h2
 ·rw [h1]; exact h2
 ·rw [h1]
  refine ⟨fun h=>(by cases h),callsIn_Wd (h2.mono ?_)⟩
  rintro e w' ⟨v,rfl,hv⟩
  exact hv
theorem no_defer (ho:cOp P own o=some ao):∀c,o.op ≠ .defer c:=by
 intro c h
 simp [cOp,h] at ho
theorem enter_run {f:Nat} (h:enterable P f=true) (us:Array Value):(callFunc f us).run P w = .ok (.enter f us) w:=by
 unfold enterable at h
 split at h
 ·rename_i fn hfn
  rw [Bool.and_eq_true] at h
  have h1:fn.name ≠ "runtime.NumGoroutine" := by simpa using h.1
  have h2:¬fn.body=none:=by intro hb; rw [hb] at h; simp at h
  simp [callFunc,hfn,h1,h2]
 ·cases h
theorem Rep.shut {c:AVal} {v:Value} (h:Rep j M w c v):Rep j M w c.shut v:=by
 cases c<;>first|exact h|exact .plain h.slice_inv
theorem Rep.shutD {c:AVal} {v:Value} (h:Rep j M w c v):Rep j M w c.shutD v:=by
 cases c<;>first|exact h|exact .plain h.slice_inv|skip
 obtain ⟨vs,rfl,hl,hc⟩:=h.agg_inv
 refine .agg (by simpa using hl) fun i c u hi hu=>?_
 rw [List.getElem?_map,Option.map_eq_some_iff] at hi
 obtain ⟨c0,hc0,rfl⟩:=hi
 exact (hc i c0 u hc0 hu).shut
theorem op_sound (hC:SoundC P C) (ho:cOp P own o=some ao) (h:aop C env M ao=some x) (hr:Rel j M w) (hG:Glob j M w) (he:EnvRep j M w env a) {K:Act→World→Prop}
  (hK:∀v w',OpOk j M w x v w'→K (a.put o.dst v) w'):OpRuns P o a w K:=by
 unfold cOp at ho
 split at ho
 case h_1 y hop =>
  obtain ⟨z,hz,ho⟩:=bind_inv ho
  injection ho with ho; subst ho
  exact wp_ran (op_move hr he (.inl hop) hz h) hK
 case h_2 y hop =>
  obtain ⟨z,hz,ho⟩:=bind_inv ho
  split at ho
  ·split at ho
   ·split at ho
    ·obtain ⟨n,hn,ho⟩:=bind_inv ho
     split at ho
     ·injection ho with ho; subst ho
      exact wp_ran (op_own hr he hop hz h) hK
     ·injection ho with ho; subst ho
      exact wp_ran (op_move hr he (.inr hop) hz h) hK
    ·cases ho
   ·injection ho with ho; subst ho
    exact wp_ran (op_move hr he (.inr hop) hz h) hK
  ·injection ho with ho; subst ho
   exact wp_ran (op_move hr he (.inr hop) hz h) hK
 case h_3 c p q hop =>
  obtain ⟨c',hc,ho⟩:=bind_inv ho
  obtain ⟨p',hp,ho⟩:=bind_inv ho
  obtain ⟨q',hq,ho⟩:=bind_inv ho
  injection ho with ho; subst ho
  exact wp_ran (op_pick hr he hop hc hp hq h) hK
 case h_4 t hop =>
  obtain ⟨i,hi,ho⟩:=bind_inv ho
  obtain ⟨z,hz,ho⟩:=bind_inv ho
  obtain ⟨l,hl,ho⟩:=bind_inv ho
  split at ho
  ·split at ho<;>(injection ho with ho; subst ho)
   ·exact wp_ran (op_boxO hr hop hi hz hl h) hK
   ·exact wp_ran (op_box0 hr hop hi hz hl h) hK
  ·injection ho with ho; subst ho
   exact wp_ran (op_box0 hr hop hi hz hl h) hK
 case h_5 t y hop =>
  obtain ⟨z,hz,ho⟩:=bind_inv ho
  split at ho
  ·split at ho<;>(injection ho with ho; subst ho)
   ·exact wp_ran (op_boxW hr he hop hz h) hK
   ·exact wp_ran (op_box hr he hop hz h) hK
  ·injection ho with ho; subst ho
   exact wp_ran (op_box hr he hop hz h) hK
 case h_6 t parts hop =>
  split at ho
  ·rename_i fs hfs
   obtain ⟨i,hi,ho⟩:=bind_inv ho
   obtain ⟨z,hz,ho⟩:=bind_inv ho
   obtain ⟨l,hl,ho⟩:=bind_inv ho
   obtain ⟨ps,hps,ho⟩:=bind_inv ho
   split at ho
   ·rename_i hall
    injection ho with ho; subst ho
    exact wp_ran (op_build hr he hop hfs hi hz hl hps hall h) hK
   ·cases ho
  ·cases ho
 case h_7 t len parts hop =>
  split at ho
  ·rename_i e ht
   obtain ⟨i,hi,ho⟩:=bind_inv ho
   obtain ⟨l,hl,ho⟩:=bind_inv ho
   split at ho
   ·rename_i hc
    injection ho with ho; subst ho
    split at h
    ·split at h
     ·exact wp_ran (op_litsO hr he hop ht hi hl hc.1 hc.2.1 hc.2.2.1 h) hK
     ·exact wp_ran (op_lits hr he hop ht hi hl hc.1 hc.2.1 hc.2.2.1 h) hK
    ·exact wp_ran (op_lits hr he hop ht hi hl hc.1 hc.2.1 hc.2.2.1 h) hK
   ·cases ho
  ·cases ho
 case h_8 t y hop =>
  obtain ⟨g,hg,ho⟩:=bind_inv ho
  obtain ⟨n,hn,ho⟩:=bind_inv ho
  obtain ⟨z,hz,ho⟩:=bind_inv ho
  injection ho with ho; subst ho
  cases g
  ·exact wp_ran (op_load1 hr he hop hg hz h) hK
  ·exact wp_ran (op_loadA hr he hop hg hn hz h) hK
 case h_9 t y y' hop =>
  obtain ⟨n,hn,ho⟩:=bind_inv ho
  obtain ⟨z,hz,ho⟩:=bind_inv ho
  obtain ⟨z',hz',ho⟩:=bind_inv ho
  injection ho with ho; subst ho
  cases z with
  |tmp s =>
   dsimp only at h
   split at h
   ·exact wp_ran (op_storeO hr he hop hn hz hz' h) hK
   ·exact wp_ran (op_store hr he hop hn hz hz' h) hK
  |_=>exact wp_ran (op_store hr he hop hn hz hz' h) hK
 case h_10 y hop =>
  obtain ⟨z,hz,ho⟩:=bind_inv ho
  injection ho with ho; subst ho
  exact wp_ran (op_chk hr he hop hz h) hK
 case h_11 op t y y' t' hop =>
  obtain ⟨z,hz,ho⟩:=bind_inv ho
  obtain ⟨z',hz',ho⟩:=bind_inv ho
  split at ho
  ·obtain ⟨b,hb,ho⟩:=bind_inv ho
   injection ho with ho; subst ho
   exact wp_ran (op_bin hr he hop hb hz hz' h) hK
  ·obtain ⟨b,hb,ho⟩:=bind_inv ho
   injection ho with ho; subst ho
   exact wp_ran (op_bin hr he hop hb hz hz' h) hK
  ·rename_i ht
   split at ho
   ·injection ho with ho; subst ho
    exact wp_ran (op_eqB (neg:=false) hr he hop ht hz hz' h) hK
   ·injection ho with ho; subst ho
    exact wp_ran (op_eqB (neg:=true) hr he hop ht hz hz' h) hK
   ·cases ho
  ·rename_i fs ht
   split at ho
   ·cases ho
   ·rename_i hst
    obtain ⟨ks,hks,ho⟩:=bind_inv ho
    have hst':P.stoodInHeld t=false:=by simpa using hst
    split at ho
    ·injection ho with ho; subst ho
     exact wp_ran (op_eqA (neg:=false) hr he hop ht hst' hks hz hz' h) hK
    ·injection ho with ho; subst ho
     exact wp_ran (op_eqA (neg:=true) hr he hop ht hst' hks hz hz' h) hK
    ·cases ho
  ·cases ho
 case h_12 t y hop =>
  obtain ⟨z,hz,ho⟩:=bind_inv ho
  injection ho with ho; subst ho
  exact wp_ran (op_not hr he hop hz h) hK
 case h_13 t y hop =>
  obtain ⟨z,hz,ho⟩:=bind_inv ho
  injection ho with ho; subst ho
  exact wp_ran (op_neg hr he hop hz h) hK
 case h_14 s d y hop =>
  obtain ⟨z,hz,ho⟩:=bind_inv ho
  split at ho
  ·rename_i hs hd
   injection ho with ho; subst ho
   exact wp_ran (op_conv hr he hop hs hd hz h) hK
  ·rename_i hs hd
   injection ho with ho; subst ho
   exact wp_ran (op_same hr he hop hs hd hz h) hK
  ·rename_i e hs hd
   split at ho
   ·rename_i hu
    injection ho with ho; subst ho
    exact wp_ran (op_b2s hr he hop hs hd hu hz h) hK
   ·cases ho
  ·rename_i e hs hd
   split at ho
   ·rename_i hu
    injection ho with ho; subst ho
    exact wp_ran (op_s2b hr he hop hs hd hu hz h) hK
   ·cases ho
  ·cases ho
 case h_15 f first caps hop =>
  split at ho
  ·rename_i hf
   obtain ⟨l,hl,ho⟩:=bind_inv ho
   injection ho with ho; subst ho
   exact wp_ran (op_fn hr he hop hf hl h) hK
  ·split at ho
   ·rename_i hf
    obtain ⟨l,hl,ho⟩:=bind_inv ho
    injection ho with ho; subst ho
    exact wp_ran (op_bindF hr he hop hf hl h) hK
   ·cases ho
 case h_16 t y lo hi mx hop =>
  obtain ⟨z,hz,ho⟩:=bind_inv ho
  obtain ⟨lo',hlo,ho⟩:=bind_inv ho
  obtain ⟨hi',hhi,ho⟩:=bind_inv ho
  obtain ⟨mx',hmx,ho⟩:=bind_inv ho
  split at ho
  ·rename_i ht
   split at ho
   ·rename_i hm
    injection ho with ho; subst ho
    have:mx=none:=by
     rcases cOpt_inv hmx with ⟨e,_⟩|⟨_,_,_,e,_⟩
     ·exact e
     ·rw [e] at hm; cases hm
    subst this
    exact wp_ran (op_sliceS hr he hop ht hz hlo hhi h) hK
   ·cases ho
  ·rename_i e ht
   obtain ⟨n,hn,ho⟩:=bind_inv ho
   split at ho
   ·rename_i hc
    injection ho with ho; subst ho
    exact wp_ran (op_sliceV hr he hop ht hn hz hlo hhi hmx hc.2 h) hK
   ·cases ho
  ·cases ho
 case h_17 s y i hop =>
  split at ho
  ·rename_i fs hs
   obtain ⟨f,hf,ho⟩:=bind_inv ho
   obtain ⟨n,hn,ho⟩:=bind_inv ho
   obtain ⟨z,hz,ho⟩:=bind_inv ho
   split at ho
   ·rename_i hpos
    injection ho with ho; subst ho
    exact wp_ran (op_faddr hr he hop hs hf hn hpos hz h) hK
   ·cases ho
  ·cases ho
 case h_18 s y i hop =>
  split at ho
  ·rename_i fs hs
   obtain ⟨f,hf,ho⟩:=bind_inv ho
   obtain ⟨g,hg,ho⟩:=bind_inv ho
   obtain ⟨n,hn,ho⟩:=bind_inv ho
   obtain ⟨z,hz,ho⟩:=bind_inv ho
   injection ho with ho; subst ho
   cases g
   ·exact wp_ran (op_field1 hr he hop hs hf hg hz h) hK
   ·exact wp_ran (op_fieldA hr he hop hs hf hg hn hz h) hK
  ·cases ho
 case h_19 t y i hop =>
  split at ho
  ·rename_i e ht
   obtain ⟨n,hn,ho⟩:=bind_inv ho
   obtain ⟨z,hz,ho⟩:=bind_inv ho
   obtain ⟨z',hz',ho⟩:=bind_inv ho
   split at ho
   ·injection ho with ho; subst ho
    exact wp_ran (op_iaddr hr he hop ht hn hz hz' h) hK
   ·cases ho
  ·rename_i len e ht
   obtain ⟨n,hn,ho⟩:=bind_inv ho
   obtain ⟨z,hz,ho⟩:=bind_inv ho
   obtain ⟨z',hz',ho⟩:=bind_inv ho
   split at ho
   ·injection ho with ho; subst ho
    exact wp_ran (op_iaddrA hr he hop ht hn hz hz' h) hK
   ·cases ho
  ·cases ho
 case h_20 t y i hop =>
  split at ho
  ·rename_i ht
   obtain ⟨z,hz,ho⟩:=bind_inv ho
   obtain ⟨z',hz',ho⟩:=bind_inv ho
   injection ho with ho; subst ho
   exact wp_ran (op_indexS hr he hop ht hz hz' h) hK
  ·rename_i len e ht
   split at ho
   ·rename_i hc
    obtain ⟨z,hz,ho⟩:=bind_inv ho
    obtain ⟨z',hz',ho⟩:=bind_inv ho
    injection ho with ho; subst ho
    exact wp_ran (op_indexA hr he hop ht hc.1 hc.2 hz hz' h) hK
   ·cases ho
  ·cases ho
 case h_21 y i hop =>
  obtain ⟨z,hz,ho⟩:=bind_inv ho
  injection ho with ho; subst ho
  exact wp_ran (op_extract hr he hop hz h) hK
 case h_22 c hop =>
  unfold cCall at ho
  split at ho
  ·rename_i f hcal
   split at ho
   ·rename_i hent
    obtain ⟨l,hl,ho⟩:=bind_inv ho
    injection ho with ho; subst ho
    obtain ⟨l1,l2⟩:=opds_rep he hl
    split at h
    ·simp only [aop] at h
     obtain ⟨_,hc⟩:=hC _ _ _ _ h
     refine wp_call (by simp [execOp,hop,resolve,hcal,Act.eval,Deferred.ofValue,invoke,enter_run hent]) ((hc j w (c.args.map a.eval) hr hG (by simpa using l1) fun i c' u hc' hu=>?_).mono ?_) hK
     ·rw [List.getElem?_map,Option.map_eq_some_iff] at hc'
      obtain ⟨y,hy,rfl⟩:=hc'
      rw [Array.getElem?_map,Option.map_eq_some_iff] at hu
      obtain ⟨q,hq,rfl⟩:=hu
      exact l2 i y q hy (by simpa using hq)
     ·rintro e w' ⟨v,j2,rfl,g1,g2,g3⟩
      exact ⟨v,rfl,j2,g1,g2,g3⟩
    split at h
    ·simp only [aop] at h
     obtain ⟨f1,f2,f3,f4⟩:=frzM_ok (j:=j) (w:=w) ((l.map (Opd.ev env)).flatMap AVal.ids) hr
     obtain ⟨_,hc⟩:=callOp_sound (us:=c.args.map a.eval) hC f2 (hG.mono f1) h (by simpa using l1) fun i c' u hc' hu=>by
      rw [List.getElem?_map,Option.map_eq_some_iff] at hc'
      obtain ⟨y,hy,rfl⟩:=hc'
      rw [Array.getElem?_map,Option.map_eq_some_iff] at hu
      obtain ⟨q,hq,rfl⟩:=hu
      exact ((l2 i y q hy (by simpa using hq)).frz hr f1 f2 f3 fun id hid=>f4 id (List.mem_flatMap.2 ⟨_,List.mem_map.2 ⟨y,List.mem_of_getElem? hy,rfl⟩,hid⟩)).shutD
     refine wp_call (by simp [execOp,hop,resolve,hcal,Act.eval,Deferred.ofValue,invoke,enter_run hent]) (hc.mono ?_) hK
     rintro e w' ⟨v,rfl,j2,g1,g2,g3⟩
     exact ⟨v,rfl,j2,g1,f1.trans g2,g3⟩
    simp only [aop] at h
    obtain ⟨_,hc⟩:=callOp_sound (us:=c.args.map a.eval) hC hr hG h (by simpa using l1) fun i c' u hc' hu=>by
     rw [List.getElem?_map,Option.map_eq_some_iff] at hc'
     obtain ⟨y,hy,rfl⟩:=hc'
     rw [Array.getElem?_map,Option.map_eq_some_iff] at hu
     obtain ⟨q,hq,rfl⟩:=hu
     exact (l2 i y q hy (by simpa using hq)).shutD
    exact wp_call (by simp [execOp,hop,resolve,hcal,Act.eval,Deferred.ofValue,invoke,enter_run hent]) hc hK
   ·cases ho
  ·rename_i t hcal
   obtain ⟨l,hl,ho⟩:=bind_inv ho
   injection ho with ho; subst ho
   obtain ⟨l1,l2⟩:=opds_rep he hl
   have hsz:l.length=c.args.size:=by simpa using l1
   simp only [aop] at h
   split at h
   ·rename_i g caps hg
    have hgr:=he.at' t
    simp only [Opd.ev] at hg
    rw [hg] at hgr
    obtain ⟨vs,hvs,hcl,hcv⟩:=hgr.func_inv
    have hev:a.eval (.tmp t) = .func (.func g) #[] vs:=hvs
    obtain ⟨hent,hc⟩:=callOp_sound (us:=c.args.map a.eval++vs) hC hr hG h (by simp; omega) fun i c' u hc' hu=>by
     rcases Nat.lt_or_ge i l.length with hi|hi
     ·rw [List.getElem?_append_left (by simpa using hi),List.getElem?_map,Option.map_eq_some_iff] at hc'
      obtain ⟨y,hy,rfl⟩:=hc'
      rw [Array.getElem?_append_left (by simp; omega),Array.getElem?_map,Option.map_eq_some_iff] at hu
      obtain ⟨q,hq,rfl⟩:=hu
      exact (l2 i y q hy (by simpa using hq)).shutD
     ·rw [List.getElem?_append_right (by simpa using hi)] at hc'
      rw [Array.getElem?_append_right (by simp; omega)] at hu
      simp only [List.length_map] at hc'
      simp only [Array.size_map] at hu
      rw [←hsz] at hu
      exact hcv _ c' u hc' hu
    exact wp_call (by simp [execOp,hop,resolve,hcal,hev,Deferred.ofValue,invoke,enter_run hent]) hc hK
   ·rename_i g fs hg
    have hgr:=he.at' t
    simp only [Opd.ev] at hg
    rw [hg] at hgr
    obtain ⟨vs,hvs,hcl,hcv⟩:=hgr.mfn_inv
    have hev:a.eval (.tmp t) = .func (.func g) vs #[]:=hvs
    obtain ⟨hent,hc⟩:=callOp_sound (us:=vs++c.args.map a.eval) hC hr hG h (by simp; omega) fun i c' u hc' hu=>by
     rcases Nat.lt_or_ge i fs.length with hi|hi
     ·rw [List.getElem?_append_left hi] at hc'
      rw [Array.getElem?_append_left (by omega)] at hu
      exact (hcv i c' u hc' hu).rep
     ·rw [List.getElem?_append_right hi,List.getElem?_map,Option.map_eq_some_iff] at hc'
      obtain ⟨y,hy,rfl⟩:=hc'
      rw [Array.getElem?_append_right (by omega),Array.getElem?_map,Option.map_eq_some_iff] at hu
      obtain ⟨q,hq,rfl⟩:=hu
      rw [←hcl] at hq
      exact (l2 _ y q hy (by simpa using hq)).shutD
    exact wp_call (by simp [execOp,hop,resolve,hcal,hev,Deferred.ofValue,invoke,enter_run hent]) hc hK
   ·cases h
  ·rename_i hcal
   split at ho
   ·rename_i y ha ht
    obtain ⟨t,ht0,ht⟩:=Option.bind_eq_some_iff.1 ht
    obtain ⟨z,hz,ho⟩:=bind_inv ho
    injection ho with ho; subst ho
    exact wp_ran (op_lenS hr he hop hcal ha ht0 ht hz h) hK
   ·rename_i y e ha ht
    obtain ⟨t,ht0,ht⟩:=Option.bind_eq_some_iff.1 ht
    obtain ⟨z,hz,ho⟩:=bind_inv ho
    injection ho with ho; subst ho
    exact wp_ran (op_lenV hr he hop hcal ha ht0 ht hz h) hK
   ·rename_i y k e ha ht
    obtain ⟨t,ht0,ht⟩:=Option.bind_eq_some_iff.1 ht
    obtain ⟨z,hz,ho⟩:=bind_inv ho
    injection ho with ho; subst ho
    exact wp_ran (op_lenM hr he hop hcal ha ht0 ht hz h) hK
   ·cases ho
  ·rename_i hcal
   split at ho
   ·rename_i y y' t t' ha hat
    split at ho
    ·rename_i e ht ht'
     obtain ⟨i,hi,ho⟩:=bind_inv ho
     obtain ⟨z,hz,ho⟩:=bind_inv ho
     obtain ⟨z',hz',ho⟩:=bind_inv ho
     split at ho
     ·rename_i hc
      injection ho with ho; subst ho
      simp only [Bool.and_eq_true,decide_eq_true_eq] at hc
      obtain ⟨⟨⟨_,c1⟩,c2⟩,c3⟩:=hc
      obtain ⟨zv,hzv,hzs⟩:=Option.map_eq_some_iff.1 c1
      have hat':c.argTypes = #[t,t']:=by rw [←hat]
      exact wp_ran (op_appendS hr he hop hcal ha hat' ht ht' hi hzv hzs c2 c3 hz hz' h) hK
     ·cases ho
    ·rename_i e e' ht ht'
     obtain ⟨i,hi,ho⟩:=bind_inv ho
     obtain ⟨z,hz,ho⟩:=bind_inv ho
     obtain ⟨z',hz',ho⟩:=bind_inv ho
     split at ho
     ·split at ho
      ·rename_i hc
       injection ho with ho; subst ho
       simp only [Bool.and_eq_true,decide_eq_true_eq] at hc
       obtain ⟨⟨c1,c2⟩,c3⟩:=hc
       obtain ⟨zv,hzv,hzs⟩:=Option.map_eq_some_iff.1 c1
       have hat':c.argTypes = #[t,t']:=by rw [←hat]
       exact wp_ran (op_appendB hr he hop hcal ha hat' ht ht' hi hzv hzs c2 c3 hz hz' h) hK
      ·cases ho
     split at ho
     ·rename_i hc
      injection ho with ho; subst ho
      simp only [Bool.and_eq_true,decide_eq_true_eq] at hc
      obtain ⟨⟨⟨c1,c2⟩,c3⟩,c4⟩:=hc
      obtain ⟨zv,hzv,hzs⟩:=Option.map_eq_some_iff.1 c1
      have hat':c.argTypes = #[t,t']:=by rw [←hat]
      exact wp_ran (op_append hr he hop hcal ha hat' ht ht' hi hzv hzs c2 c3 c4 hz hz' h) hK
     ·cases ho
    ·cases ho
   ·cases ho
  ·rename_i hcal
   split at ho
   ·rename_i y t ha hat
    split at ho
    ·rename_i e ht
     obtain ⟨i,hi,ho⟩:=bind_inv ho
     obtain ⟨zv,hzv,ho⟩:=bind_inv ho
     obtain ⟨l,hl,ho⟩:=bind_inv ho
     obtain ⟨z,hz,ho⟩:=bind_inv ho
     split at ho
     ·rename_i hc
      injection ho with ho; subst ho
      exact wp_ran (op_clearA hr he hop hcal ha hat ht hi hzv hl hc.1 hz h) hK
     ·cases ho
    ·cases ho
   ·cases ho
  ·rename_i hcal
   split at ho
   ·rename_i y y' ha
    obtain ⟨z,hz,ho⟩:=bind_inv ho
    obtain ⟨z',hz',ho⟩:=bind_inv ho
    injection ho with ho; subst ho
    exact wp_ran (op_minmax (mx:=true) hr he hop hcal ha hz hz' h) hK
   ·cases ho
  ·rename_i hcal
   split at ho
   ·rename_i y y' ha
    obtain ⟨z,hz,ho⟩:=bind_inv ho
    obtain ⟨z',hz',ho⟩:=bind_inv ho
    injection ho with ho; subst ho
    exact wp_ran (op_minmax (mx:=false) hr he hop hcal ha hz hz' h) hK
   ·cases ho
  ·cases ho
 case h_23 t hop =>
  injection ho with ho; subst ho
  exact wp_ran (op_mkMap hr hop h) hK
 case h_24 t m k ok hop =>
  split at ho
  ·rename_i kt et ht
   obtain ⟨fk,hfk,ho⟩:=bind_inv ho
   obtain ⟨ie,hi,ho⟩:=bind_inv ho
   obtain ⟨zv,hzv,ho⟩:=bind_inv ho
   obtain ⟨z,hz,ho⟩:=bind_inv ho
   obtain ⟨m',hm,ho⟩:=bind_inv ho
   obtain ⟨k',hk,ho⟩:=bind_inv ho
   injection ho with ho; subst ho
   exact wp_ran (op_look hr he hop ht hfk hi hzv hz hm hk h) hK
  ·cases ho
 case h_25 t m k y hop =>
  split at ho
  ·rename_i kt et ht
   obtain ⟨fk,hfk,ho⟩:=bind_inv ho
   obtain ⟨m',hm,ho⟩:=bind_inv ho
   obtain ⟨k',hk,ho⟩:=bind_inv ho
   obtain ⟨y',hy,ho⟩:=bind_inv ho
   injection ho with ho; subst ho
   exact wp_ran (op_upd hr he hop ht hfk hm hk hy h) hK
  ·cases ho
 case h_26 t y hop =>
  split at ho
  ·rename_i ht
   obtain ⟨z,hz,ho⟩:=bind_inv ho
   injection ho with ho; subst ho
   exact wp_ran (op_rngS hr he hop ht hz h) hK
  ·cases ho
 case h_27 y hop =>
  obtain ⟨z,hz,ho⟩:=bind_inv ho
  injection ho with ho; subst ho
  exact wp_ran (op_nextS hr he hop hz h) hK
 case h_28=>cases ho
end
end Go.Abs
namespace Go.Abs
open Go Go.RowKit
variable [Globs]
section
variable {P:Program} {C:CallF} {A:Ann}
theorem put_size (a:Act) (d:Option Nat) (v:Value):(a.put d v).tmps.size=a.tmps.size:=by cases d<;>simp [Act.put]
theorem put_defers (a:Act) (d:Option Nat) (v:Value):(a.put d v).defers=a.defers:=by cases d<;>rfl
theorem cOper_inv {ops:Array Oper} {g:Bool} {o:Oper} {x:AOper} (h:cOper P A ops g o=some x):cOp P A.own o=some x.op∧x.dst=o.dst∧x.grow=g∧(∀d,o.dst=some d→d<A.n) ∧
  ((o.guard=none∧x.guard=none)∨∃k want t,o.guard=some (k,want)∧x.guard=some (t,want)∧(ops[k]?).bind (·.dst)=some t∧t<A.n):=by
 unfold cOper at h
 obtain ⟨op,hop,h⟩:=bind_inv h
 split at h
 ·rename_i hd
  have hd':∀d,o.dst=some d→d<A.n:=fun d e=>by rw [e] at hd; simpa [dstOk] using hd
  split at h
  ·rename_i hg
   injection h with h; subst h
   exact ⟨hop,rfl,rfl,hd',.inl ⟨hg,rfl⟩⟩
  ·rename_i k want hg
   obtain ⟨t,ht,h⟩:=bind_inv h
   split at h
   ·rename_i hlt
    injection h with h; subst h
    exact ⟨hop,rfl,rfl,hd',.inr ⟨k,want,t,hg,rfl,ht,hlt⟩⟩
   ·cases h
 ·cases h
theorem wanted_yes {ops:Array Oper} {o:Oper} {x:AOper} {env:Env} {M:AMem} {j:J} {w:World} {a:Act} (he:EnvRep j M w env a) (hs:a.tmps.size=A.n)
  (hg:(o.guard=none∧x.guard=none)∨∃k want t,o.guard=some (k,want)∧x.guard=some (t,want)∧(ops[k]?).bind (·.dst)=some t∧t<A.n)
  (h:∀t want,x.guard=some (t,want)→getS env t = .bool want):Region.wanted o (yielded ops a.tmps)=true:=by
 unfold Region.wanted
 rcases hg with ⟨h1,_⟩|⟨k,want,t,h1,h2,h3,h4⟩
 ·rw [h1]
 ·rw [h1]
  have hv:=he.at' t
  rw [h t want h2] at hv
  have hv:=hv.bool_inv
  have hlt:t<a.tmps.size:=by omega
  have ht:a.tmps[t]?=some (.bool want):=by
   rw [Array.getElem?_eq_getElem hlt]
   simpa [Array.getD,hlt] using hv
  simp [yielded,h3,ht]
theorem wanted_no {ops:Array Oper} {o:Oper} {x:AOper} {env:Env} {M:AMem} {j:J} {w:World} {a:Act} (he:EnvRep j M w env a) (hs:a.tmps.size=A.n)
  (hg:(o.guard=none∧x.guard=none)∨∃k want t,o.guard=some (k,want)∧x.guard=some (t,want)∧(ops[k]?).bind (·.dst)=some t∧t<A.n)
  {t:Nat} {want:Bool} (hx:x.guard=some (t,want)) (h:getS env t = .bool (!want)∨getS env t = .tuple []):Region.wanted o (yielded ops a.tmps)=false:=by
 unfold Region.wanted
 rcases hg with ⟨_,h1⟩|⟨k,want',t',h1,h2,h3,h4⟩
 ·rw [h1] at hx; cases hx
 ·rw [h2] at hx
  injection hx with hx
  injection hx with e1 e2
  subst e1; subst e2
  rw [h1]
  have hv:=he.at' t'
  have hlt:t'<a.tmps.size:=by omega
  have hget:a.tmps[t']?=some (a.tmps.getD t' undef):=by rw [Array.getElem?_eq_getElem hlt]; simp [Array.getD,hlt]
  rcases h with h|h
  ·rw [h] at hv
   rw [hv.bool_inv] at hget
   cases want'<;>simp [yielded,h3,hget]
  ·rw [h] at hv
   obtain ⟨vs,hvs,hl,_⟩:=hv.tuple_inv
   rw [hvs] at hget
   simp [yielded,h3,hget]
theorem astep_aop {x:AOper} {env:Env} {M:AMem} {y:AVal×AMem} (h:astep C x env M=some y):aop C env M x.op=some y:=by
 rcases astep_inv h with ⟨_,_,h⟩|⟨_,_,h⟩|⟨_,_,_,h⟩<;>exact h
theorem ops_sound (hC:SoundC P C) {r:Option Nat} {n:Nat} {ops:Array Oper} {Q:Exit→Act→World→Prop}:∀ {grow:List Bool} (l:List Oper) (k:Nat),ops.toList.drop k=l→∀ {al:List AOper},cOpers P A ops grow l=some al →
  ∀ {env:Env} {M:AMem} {x:Env×AMem},aregion C al env M=some x→∀ {j:J} {w:World} {a:Act},Rel j M w→Glob j M w→EnvRep j M w env a→a.tmps.size=A.n →
  (∀a' w' j',Rel j' x.2 w'→EnvRep j' x.2 w' x.1 a'→Ext j M w j' x.2 w'→a'.tmps.size=A.n→a'.defers=a.defers→Q .normal a' w')→wpOpsIn (Wd r) n P ops Q (List.range' k l.length) a w
 |grow,[],k,hk,al,hal,env,M,x,hx,j,w,a,hr,hG,he,hs,hQ=>by
  simp only [cOpers] at hal; injection hal with hal; subst hal
  simp only [aregion] at hx; injection hx with hx; subst hx
  exact hQ a w j hr he (Ext.refl j M w) hs rfl
 |grow,o::rs,k,hk,al,hal,env,M,x,hx,j,w,a,hr,hG,he,hs,hQ=>by
  simp only [cOpers] at hal
  obtain ⟨xo,hxo,hal⟩:=bind_inv hal
  obtain ⟨xr,hxr,hal⟩:=bind_inv hal
  injection hal with hal; subst hal
  obtain ⟨h1,h2,h3,h4,h5⟩:=cOper_inv hxo
  have hko:ops[k]?=some o:=by
   have:(ops.toList.drop k)[0]?=some o:=by rw [hk]; rfl
   rw [List.getElem?_drop] at this
   simpa using this
  have hkr:ops.toList.drop (k+1)=rs:=by
   rw [←List.drop_drop,hk]; rfl
  simp only [List.length_cons,List.range'_succ,wpOpsIn,hko]
  rcases aregion_cons_inv hx with ⟨y,g1,g2,g3⟩|⟨t,want,g1,g2,g3⟩
  ·rw [if_pos (wanted_yes he hs h5 g1)]
   refine OpRuns.wpIn (no_defer h1) (op_sound hC h1 (astep_aop g2) hr hG he fun v w' ⟨j',q1,q2,q3⟩=>?_)
   refine ops_sound hC rs (k+1) hkr hxr (x:=x) (by rw [←h2]; exact g3) q1 (hG.mono q2) ((he.mono q2).put hs h4 (by exact q3)) (by rw [put_size]; exact hs) fun a' w'' j'' p1 p2 p3 p4 p5=>?_
   exact hQ a' w'' j'' p1 p2 (q2.trans p3) p4 (p5.trans (put_defers _ _ _))
  ·rw [if_neg (by rw [wanted_no he hs h5 g1 g2]; simp)]
   refine ⟨fun _ _=>trivial,?_⟩
   refine ops_sound hC rs (k+1) hkr hxr (x:=x) (by rw [←h2]; exact g3) hr hG (he.put hs h4 (.tuple (vs := #[]) rfl fun i c v h=>by simp at h)) (by rw [put_size]; exact hs) fun a' w'' j'' p1 p2 p3 p4 p5=>?_
   exact hQ a' w'' j'' p1 p2 p3 p4 (p5.trans (put_defers _ _ _))
theorem maskOf_bit {acc:List Nat} {i:Nat}:∀ {es:List Edge},(maskOf acc es).testBit i=true→∃e,e∈es∧Region.binds .any e=true∧(e.on=i∨((nth acc e.on).getD 0).testBit i=true)
 | [],h=>by simp [maskOf] at h
 |e::r,h=>by
  rw [maskOf] at h
  split at h
  ·rename_i hb
   rw [Nat.testBit_or,Nat.testBit_or,Bool.or_eq_true,Bool.or_eq_true] at h
   rcases h with h|h|h
   ·obtain ⟨e',h1,h2,h3⟩:=maskOf_bit h
    exact ⟨e',by simp [h1],h2,h3⟩
   ·rw [Nat.testBit_two_pow] at h
    exact ⟨e,by simp,hb,.inl (by simpa using h)⟩
   ·exact ⟨e,by simp,hb,.inr h⟩
  ·obtain ⟨e',h1,h2,h3⟩:=maskOf_bit h
   exact ⟨e',by simp [h1],h2,h3⟩
theorem befGo_spec:∀(l:List Oper) (acc:List Nat),acc <+: befGo l acc∧∀(m:Nat) (o:Oper),l[m]?=some o→(befGo l acc)[acc.length+m]?=some (maskOf ((befGo l acc).take (acc.length+m)) o.after.toList)
 | [],acc=>⟨List.prefix_refl _,fun m o h=>by simp at h⟩
 |p::r,acc=>by
  rw [befGo]
  obtain ⟨h1,h2⟩:=befGo_spec r (acc++[maskOf acc p.after.toList])
  have h3:acc <+: befGo r (acc++[maskOf acc p.after.toList]):=(List.prefix_append _ _).trans h1
  refine ⟨h3,fun m o hm=>?_⟩
  cases m with
  |zero =>
   simp at hm; subst hm
   obtain ⟨t,ht⟩:=h1
   have htake:(befGo r (acc++[maskOf acc p.after.toList])).take acc.length=acc:=by
    rw [←ht,List.append_assoc,List.take_left']
    rfl
   rw [Nat.add_zero,htake,←ht]
   simp
  |succ m =>
   have:=h2 m o (by simpa using hm)
   simp only [List.length_append,List.length_cons,List.length_nil] at this
   rw [show acc.length+(m+1)=acc.length+(0+1)+m by omega]
   exact this
theorem ahead_edge {ops:List Oper} {i k:Nat} {o:Oper} (hk:ops[k]?=some o) (hlt:∀e,e∈o.after.toList→Region.binds .any e=true→e.on<k) (h:ahead (befs ops) i k=true) :
  ∃e,e∈o.after.toList∧Region.binds .any e=true∧e.on<k∧(e.on=i∨ahead (befs ops) i e.on=true):=by
 have h1:=(befGo_spec ops []).2 k o hk
 simp only [List.length_nil,Nat.zero_add] at h1
 unfold ahead at h
 rw [nth_eq,show befs ops=befGo ops [] from rfl,h1] at h
 obtain ⟨e,h2,h3,h4⟩:=maskOf_bit h
 have h5:=hlt e h2 h3
 refine ⟨e,h2,h3,h5,h4.imp id fun h=>?_⟩
 rw [nth_eq,List.getElem?_take_of_lt h5] at h
 unfold ahead
 rw [nth_eq]
 exact h
def Down (ops:Array Oper) (L:Nat→Bool):Prop:=∀(k:Nat) (o:Oper) (e:Edge),ops[k]?=some o→L k=true→e∈o.after.toList→Region.binds .any e=true→L e.on=true
theorem ahead_in {ops:Array Oper} {L:Nat→Bool} (hd:Down ops L) (hlt:∀(k:Nat) (o:Oper) (e:Edge),ops[k]?=some o→e∈o.after.toList→Region.binds .any e=true→e.on<k) :
  ∀(k:Nat) {i:Nat},ahead (befs ops.toList) i k=true→k<ops.size→L k=true→L i=true:=by
 intro k
 induction k using Nat.strongRecOn with
 |_ k ih =>
  intro i h hk hL
  have ho:ops[k]?=some ops[k]:=Array.getElem?_eq_getElem hk
  obtain ⟨e,h1,h2,h3,h4⟩:=ahead_edge (ops:=ops.toList) (o:=ops[k]) (by simp) (fun e h1 h2=>hlt k _ e ho h1 h2) h
  have h5:=hd k _ e ho hL h1 h2
  rcases h4 with rfl|h4
  ·exact h5
  ·exact ih e.on h3 h4 (by omega) h5
theorem ahead_ready {ops:Array Oper} {L:Nat→Bool} (hd:Down ops L) (hlt:∀(k:Nat) (o:Oper) (e:Edge),ops[k]?=some o→e∈o.after.toList→Region.binds .any e=true→e.on<k)
  {k i:Nat} {o:Oper} (ho:ops[k]?=some o) (hr:∀e,e∈o.after.toList→Region.binds .any e=true→L e.on=true) (h:ahead (befs ops.toList) i k=true):L i=true:=by
 have hk:k<ops.size:=(Array.getElem?_eq_some_iff.1 ho).1
 obtain ⟨e,h1,h2,h3,h4⟩:=ahead_edge (ops:=ops.toList) (o:=o) (by simpa using ho) (fun e h1 h2=>hlt k _ e ho h1 h2) h
 have h5:=hr e h1 h2
 rcases h4 with rfl|h4
 ·exact h5
 ·exact ahead_in hd hlt e.on h4 (by omega) h5
theorem ev_congr {env env':Env} {x:Opd} (h:∀t,t∈x.slots→getS env t=getS env' t):x.ev env=x.ev env':=by
 cases x with
 |tmp t=>exact h t (by simp [Opd.slots])
 |cst v=>rfl
theorem evs_congr {env env':Env}:∀ {l:List Opd},(∀t,t∈l.flatMap Opd.slots→getS env t=getS env' t)→∀x,x∈l→x.ev env=x.ev env':=fun h x hx =>
 ev_congr fun t ht=>h t (List.mem_flatMap.2 ⟨x,hx,ht⟩)
theorem bound_congr {env env':Env} {n:Nat} {x:Option Opd} (h:∀t,t∈oslots x→getS env t=getS env' t):boundOf env n x=boundOf env' n x:=by
 cases x with
 |none=>rfl
 |some x=>unfold boundOf; simp only; rw [ev_congr (x:=x) h]
theorem fill_congr {env env':Env}:∀ {ps:List (Nat×Nat×Opd)} {cs:List AVal},(∀p,p∈ps→p.2.2.ev env=p.2.2.ev env')→fillParts env cs ps=fillParts env' cs ps
 | [],cs,_=>rfl
 |(off,n,x)::r,cs,h=>by
  unfold fillParts
  rw [h (off,n,x) (by simp)]
  congr 1
  funext new
  split
  ·exact fill_congr fun p hp=>h p (by simp [hp])
  ·rfl
theorem lits_congr {env env':Env} {sz:Nat}:∀ {ps:List Opd},(∀p,p∈ps→p.ev env=p.ev env')→litsOf env sz ps=litsOf env' sz ps
 | [],_=>rfl
 |x::r,h=>by
  unfold litsOf
  rw [h x (by simp),lits_congr (ps:=r) fun p hp=>h p (by simp [hp])]
theorem aop_congr {env env':Env} {M:AMem} {op:AOp} (h:∀t,t∈op.slots→getS env t=getS env' t):aop C env M op=aop C env' M op∧op.argIds env=op.argIds env':=by
 cases op<;>simp only [AOp.slots,List.mem_append] at h
 case mv x=>simp [aop,AOp.argIds,ev_congr h]
 case own n x=>simp [aop,AOp.argIds,ev_congr h]
 case pick c x y=>simp [aop,AOp.argIds,ev_congr (x:=c) fun t ht=>h t (.inl ht),ev_congr (x:=x) fun t ht=>h t (.inr (.inl ht)),ev_congr (x:=y) fun t ht=>h t (.inr (.inr ht))]
 case box0 cs=>simp [aop,AOp.argIds]
 case box x=>simp [aop,AOp.argIds,ev_congr h]
 case boxO t e l=>simp [aop,AOp.argIds]
 case boxW t e x=>simp [aop,AOp.argIds,ev_congr h]
 case s2b x=>simp [aop,AOp.argIds,ev_congr h]
 case bindF f l =>
  have:(l.map fun x=>(x.ev env).shutD)=l.map fun x=>(x.ev env').shutD:=List.map_congr_left fun x hx=>by rw [evs_congr h x hx]
  simp only [aop,AOp.argIds,this,and_self]
 case build z ps=>simp [aop,AOp.argIds,fill_congr (ps:=ps) fun p hp=>ev_congr fun t ht=>h t (List.mem_flatMap.2 ⟨p,hp,ht⟩)]
 case lits n ps=>simp [aop,AOp.argIds,lits_congr (ps:=ps) (evs_congr h)]
 case litsO n ps=>simp [aop,AOp.argIds,lits_congr (ps:=ps) (evs_congr h)]
 case loadA n x=>simp [aop,AOp.argIds,ev_congr h]
 case load1 x=>simp [aop,AOp.argIds,ev_congr h]
 case store n x y=>simp [aop,AOp.argIds,ev_congr (x:=x) fun t ht=>h t (.inl ht),ev_congr (x:=y) fun t ht=>h t (.inr ht)]
 case storeO sz p n x y=>simp [aop,AOp.argIds,ev_congr (x:=x) fun t ht=>h t (.inl ht),ev_congr (x:=y) fun t ht=>h t (.inr ht)]
 case chk x=>simp [aop,AOp.argIds,ev_congr h]
 case bin b x y=>simp [aop,AOp.argIds,ev_congr (x:=x) fun t ht=>h t (.inl ht),ev_congr (x:=y) fun t ht=>h t (.inr ht)]
 case eqA ks n x y=>simp [aop,AOp.argIds,ev_congr (x:=x) fun t ht=>h t (.inl ht),ev_congr (x:=y) fun t ht=>h t (.inr ht)]
 case eqB n x y=>simp [aop,AOp.argIds,ev_congr (x:=x) fun t ht=>h t (.inl ht),ev_congr (x:=y) fun t ht=>h t (.inr ht)]
 case not x=>simp [aop,AOp.argIds,ev_congr h]
 case neg x=>simp [aop,AOp.argIds,ev_congr h]
 case conv k x=>simp [aop,AOp.argIds,ev_congr h]
 case same x=>simp [aop,AOp.argIds,ev_congr h]
 case fn f l=>simp only [aop,AOp.argIds,List.map_congr_left (evs_congr h),and_self]
 case sliceS x lo hi =>
  simp only [aop,AOp.argIds,ev_congr (x:=x) fun t ht=>h t (.inl ht),bound_congr (env:=env) (env':=env') (x:=lo) fun t ht=>h t (.inr (.inl ht)),and_true]
  split
  ·rw [bound_congr (x:=hi) fun t ht=>h t (.inr (.inr ht))]
  ·rfl
 case sliceV n x lo hi mx =>
  simp only [aop,AOp.argIds,ev_congr (x:=x) fun t ht=>h t (.inl ht),bound_congr (env:=env) (env':=env') (x:=lo) fun t ht=>h t (.inr (.inl ht)),and_true]
  split
  ·rw [bound_congr (x:=hi) fun t ht=>h t (.inr (.inr (.inl ht)))]
   cases mx with
   |none=>rfl
   |some m=>simp only [ev_congr (x:=m) fun t ht=>h t (.inr (.inr (.inr ht)))]
  ·rw [bound_congr (x:=hi) fun t ht=>h t (.inr (.inr (.inl ht)))]
   cases mx with
   |none=>rfl
   |some m=>simp only [ev_congr (x:=m) fun t ht=>h t (.inr (.inr (.inr ht)))]
  ·rfl
 case faddr n x=>simp [aop,AOp.argIds,ev_congr h]
 case fieldA p n x=>simp [aop,AOp.argIds,ev_congr h]
 case field1 p x=>simp [aop,AOp.argIds,ev_congr h]
 case iaddr n x y=>simp [aop,AOp.argIds,ev_congr (x:=x) fun t ht=>h t (.inl ht),ev_congr (x:=y) fun t ht=>h t (.inr ht)]
 case iaddrA m n x y=>simp [aop,AOp.argIds,ev_congr (x:=x) fun t ht=>h t (.inl ht),ev_congr (x:=y) fun t ht=>h t (.inr ht)]
 case indexA n x y=>simp [aop,AOp.argIds,ev_congr (x:=x) fun t ht=>h t (.inl ht),ev_congr (x:=y) fun t ht=>h t (.inr ht)]
 case appendB e x y=>simp [aop,AOp.argIds,ev_congr (x:=x) fun t ht=>h t (.inl ht),ev_congr (x:=y) fun t ht=>h t (.inr ht)]
 case appendS e x y=>simp [aop,AOp.argIds,ev_congr (x:=x) fun t ht=>h t (.inl ht),ev_congr (x:=y) fun t ht=>h t (.inr ht)]
 case indexS x y=>simp [aop,AOp.argIds,ev_congr (x:=x) fun t ht=>h t (.inl ht),ev_congr (x:=y) fun t ht=>h t (.inr ht)]
 case extract x i=>simp [aop,AOp.argIds,ev_congr h]
 case call f l =>
  have:(l.map fun x=>(x.ev env).shutD)=l.map fun x=>(x.ev env').shutD:=List.map_congr_left fun x hx=>by rw [evs_congr h x hx]
  simp only [aop,AOp.argIds,this,and_self]
 case callV f l =>
  have:(l.map fun x=>(x.ev env).shutD)=l.map fun x=>(x.ev env').shutD:=List.map_congr_left fun x hx=>by rw [evs_congr (fun t ht=>h t (.inr ht)) x hx]
  simp only [aop,AOp.argIds,this,ev_congr (x:=f) fun t ht=>h t (.inl ht),and_self]
 case callD f l=>simp only [aop,AOp.argIds,List.map_congr_left (evs_congr h),and_self]
 case clearA n z x=>simp [aop,AOp.argIds,ev_congr h]
 case callF f l =>
  have h1:(l.map fun x=>((x.ev env).frz M).shutD)=l.map fun x=>((x.ev env').frz M).shutD:=List.map_congr_left fun x hx=>by rw [evs_congr h x hx]
  have h2:l.map (Opd.ev env)=l.map (Opd.ev env'):=List.map_congr_left (evs_congr h)
  simp only [aop,AOp.argIds,h1,h2,and_self]
 case lenS x=>simp [aop,AOp.argIds,ev_congr h]
 case lenV x=>simp [aop,AOp.argIds,ev_congr h]
 case append n b x y=>simp [aop,AOp.argIds,ev_congr (x:=x) fun t ht=>h t (.inl ht),ev_congr (x:=y) fun t ht=>h t (.inr ht)]
 case b2s x=>simp [aop,AOp.argIds,ev_congr h]
 case mkMap=>simp [aop,AOp.argIds]
 case look fk z ok x y=>simp [aop,AOp.argIds,ev_congr (x:=x) fun t ht=>h t (.inl ht),ev_congr (x:=y) fun t ht=>h t (.inr ht)]
 case upd fk c x y=>simp [aop,AOp.argIds,ev_congr (x:=c) fun t ht=>h t (.inl ht),ev_congr (x:=x) fun t ht=>h t (.inr (.inl ht)),ev_congr (x:=y) fun t ht=>h t (.inr (.inr ht))]
 case lenM x=>simp [aop,AOp.argIds,ev_congr h]
 case rngS x=>simp [aop,AOp.argIds,ev_congr h]
 case nextS x=>simp [aop,AOp.argIds,ev_congr h]
 case minmax m x y=>simp [aop,AOp.argIds,ev_congr (x:=x) fun t ht=>h t (.inl ht),ev_congr (x:=y) fun t ht=>h t (.inr ht)]
theorem callOp_alone {f:Nat} {vs:List AVal} {M:AMem} {x:AVal×AMem} (h:callOp C f vs M=some x) (hn:vs.flatMap AVal.ids=[]):x.2=M∧∀M2,callOp C f vs M2=some (x.1,M2):=by
 have hre:∀M,reach M []=[]:=fun M=>rfl
 unfold callOp at h
 rw [hn,hre] at h
 split at h
 ·rename_i hf
  obtain ⟨B,hB,h⟩:=obind_inv h
  simp only [pickM] at hB
  injection hB with hB; subst hB
  split at h
  ·obtain ⟨y,hy,h⟩:=obind_inv h
   split at h
   ·rename_i hc
    injection h with h; subst h
    have hy2:y.2=[]:=List.eq_nil_of_length_eq_zero hc.1
    refine ⟨by simp [hy2,wback],fun M2=>?_⟩
    unfold callOp
    rw [hn,hre,if_pos hf]
    simp only [pickM,obind_some]
    rw [if_pos (show reach1 M2 []=[] from rfl),hy,obind_some,if_pos hc,hy2]
    simp [wback]
   ·cases h
  ·cases h
 ·cases h
theorem alone_op {op:AOp} (hc:op.isCall=true) {env:Env} {M:AMem} {x:AVal×AMem} (h:aop C env M op=some x) (hn:op.argIds env=[]):x.2=M∧∀M2,aop C env M2 op=some (x.1,M2):=by
 cases op<;>simp only [AOp.isCall,Bool.false_eq_true] at hc
 case call f l =>
  simp only [aop,AOp.argIds] at h hn ⊢
  exact callOp_alone h hn
 case callV f l =>
  simp only [aop,AOp.argIds] at h hn ⊢
  split at h
  ·rename_i g caps hg
   rw [hg] at hn
   simp only at hn
   exact callOp_alone h hn
  ·rename_i g fs hg
   rw [hg] at hn
   simp only at hn
   exact callOp_alone h hn
  ·cases h
theorem pure_op {op:AOp} (he:op.isE=false) (hl:op.isL=false) {env:Env} {M:AMem} {x:AVal×AMem} (h:aop C env M op=some x):x.2=M∧∀M2,aop C env M2 op=some (x.1,M2):=by
 cases op<;>simp only [AOp.isE,AOp.isL,reduceCtorEq] at he hl<;>simp only [aop] at h ⊢
 case sliceS y lo hi =>
  split at h
  ·rename_i s e
   obtain ⟨hh,h1,h⟩:=obind_inv h
   obtain ⟨l,h2,h⟩:=obind_inv h
   obtain ⟨hp,h⟩:=owhen_inv h
   injection h with h; subst h
   exact ⟨rfl,fun M2=>by simp only [h1,h2,obind_some]; exact owhen_pos hp⟩
  ·cases h
 case sliceV n y lo hi mx =>
  split at h
  ·rename_i tk xs e
   obtain ⟨hw,h⟩:=owhen_inv h
   obtain ⟨hh,h1,h⟩:=obind_inv h
   obtain ⟨l,h2,h⟩:=obind_inv h
   split at h
   ·obtain ⟨hp,h⟩:=owhen_inv h
    injection h with h; subst h
    exact ⟨rfl,fun M2=>by rw [owhen_pos hw]; simp only [h1,h2,obind_some]; exact owhen_pos hp⟩
   ·split at h
    ·rename_i k m em
     obtain ⟨hp,h⟩:=owhen_inv h
     rcases oif_inv h with ⟨hb,h⟩|⟨hb,h⟩<;>(injection h with h; subst h)
     ·exact ⟨rfl,fun M2=>by rw [owhen_pos hw]; simp only [h1,h2,obind_some,hb,oif_true]; exact owhen_pos hp⟩
     ·exact ⟨rfl,fun M2=>by rw [owhen_pos hw]; simp only [h1,h2,obind_some,hb,oif_false]; exact owhen_pos hp⟩
    ·cases h
  ·rename_i id v0 sz' al ah e
   obtain ⟨hw,h⟩:=owhen_inv h
   obtain ⟨hh,h1,h⟩:=obind_inv h
   obtain ⟨l,h2,h⟩:=obind_inv h
   split at h
   ·obtain ⟨hp,h⟩:=owhen_inv h
    rcases oif_inv h with ⟨hb,h⟩|⟨hb,h⟩<;>(injection h with h; subst h)
    ·exact ⟨rfl,fun M2=>by rw [owhen_pos hw]; simp only [h1,h2,obind_some,hb,oif_true]; exact owhen_pos hp⟩
    ·exact ⟨rfl,fun M2=>by rw [owhen_pos hw]; simp only [h1,h2,obind_some,hb,oif_false]; exact owhen_pos hp⟩
   ·split at h
    ·rename_i k m em
     obtain ⟨hp,h⟩:=owhen_inv h
     rcases oif_inv h with ⟨hb,h⟩|⟨hb,h⟩
     ·injection h with h; subst h
      exact ⟨rfl,fun M2=>by rw [owhen_pos hw]; simp only [h1,h2,obind_some,hb,oif_true]; exact owhen_pos hp⟩
     ·rcases oif_inv h with ⟨hb2,h⟩|⟨hb2,h⟩<;>(injection h with h; subst h)
      ·exact ⟨rfl,fun M2=>by rw [owhen_pos hw]; simp only [h1,h2,obind_some,hb,hb2,oif_true,oif_false]; exact owhen_pos hp⟩
      ·exact ⟨rfl,fun M2=>by rw [owhen_pos hw]; simp only [h1,h2,obind_some,hb,hb2,oif_false]; exact owhen_pos hp⟩
    ·cases h
  ·cases h
 case iaddr n y i =>
  split at h
  ·obtain ⟨hp,h⟩:=owhen_inv h
   obtain ⟨e,h1,h⟩:=obind_inv h
   split at h
   ·rename_i hw
    injection h with h; subst h
    exact ⟨rfl,fun M2=>by rw [owhen_pos hp,h1,obind_some,if_pos hw]⟩
   ·cases h
  ·obtain ⟨hp,h⟩:=owhen_inv h
   injection h with h; subst h
   exact ⟨rfl,fun M2=>by rw [owhen_pos hp]⟩
  ·cases h
 case iaddrA m n y i =>
  split at h
  ·obtain ⟨hp,h⟩:=owhen_inv h
   injection h with h; subst h
   exact ⟨rfl,fun M2=>by rw [owhen_pos hp]⟩
  ·cases h
 case indexA n y i =>
  split at h
  ·obtain ⟨hp,h⟩:=owhen_inv h
   obtain ⟨e,h1,h⟩:=obind_inv h
   injection h with h; subst h
   exact ⟨rfl,fun M2=>by rw [owhen_pos hp,h1,obind_some]⟩
  ·cases h
 case bindF f l =>
  split at h
  ·rename_i hp
   injection h with h; subst h
   exact ⟨rfl,fun M2=>by rw [if_pos hp]⟩
  ·cases h
 case indexS y i =>
  split at h
  ·obtain ⟨hp,h⟩:=owhen_inv h
   obtain ⟨e,h1,h⟩:=obind_inv h
   injection h with h; subst h
   exact ⟨rfl,fun M2=>by rw [owhen_pos hp,h1,obind_some]⟩
  ·cases h
 case pick c y z =>
  split at h
  ·rcases oif_inv h with ⟨rfl,h⟩|⟨rfl,h⟩<;>(injection h with h; subst h; exact ⟨rfl,fun _=>rfl⟩)
  ·cases h
 case lits n ps =>
  obtain ⟨l,h1,h⟩:=obind_inv h
  injection h with h; subst h
  exact ⟨rfl,fun M2=>by rw [h1,obind_some]⟩
 all_goals first
  |(injection h with h; subst h; exact ⟨rfl,fun _=>rfl⟩)
  |(obtain ⟨_,ha,h⟩:=obind_inv h; injection h with h; subst h; exact ⟨rfl,fun _=>by rw [ha]; rfl⟩)
  |(split at h<;>first
    |(injection h with h; subst h; exact ⟨rfl,fun _=>rfl⟩)
    |(obtain ⟨_,ha,h⟩:=obind_inv h; injection h with h; subst h; exact ⟨rfl,fun _=>by rw [ha]; rfl⟩)
    |cases h
    |(split at h<;>first
      |(rename_i hc; injection h with h; subst h; exact ⟨rfl,fun _=>by rw [if_pos hc]⟩)
      |cases h))
theorem prefix_same {M M2:AMem} {id:Nat} {b:ABox} (hp:M <+: M2∨M2 <+: M) (hid:id<M2.length) (hb:nth M id=some b):nth M2 id=some b:=by
 rw [nth_eq] at hb ⊢
 rcases hp with ⟨t,rfl⟩|⟨t,rfl⟩
 ·rw [List.getElem?_append_left (lt_of_some hb)]; exact hb
 ·rw [List.getElem?_append_left hid] at hb; exact hb
theorem load_mem {op:AOp} (hl:op.isL=true) {env:Env} {M:AMem} {x:AVal×AMem} (h:aop C env M op=some x):x.2=M ∧
  ∀ {M2:AMem} (z:Opd),(∀id b,id∈(z.ev env).ids0→id<M2.length→nth M id=some b→nth M2 id=some b)→∀ {j:J} {w:World} {v:Value},(op = .load1 z∨(∃n,op = .loadA n z)∨∃fk zr ok k,op = .look fk zr ok z k)→Rep j M2 w (z.ev env) v→aop C env M2 op=some (x.1,M2):=by
 cases op<;>simp only [AOp.isL,Bool.false_eq_true] at hl
 case loadA n y =>
  simp only [aop] at h ⊢
  split at h
  ·rename_i id off e
   split at h
   ·rename_i cs hM
    split at h
    ·rename_i hle
     injection h with h; subst h
     refine ⟨rfl,fun {M2} z hp {j w v} hz hr=>?_⟩
     have:z=y:=by rcases hz with hz|⟨n',hz⟩|⟨_,_,_,_,hz⟩<;>cases hz<;>rfl
     subst this
     rw [e] at hr
     obtain ⟨b,hid,_⟩:=hr.ptr_inv
     rw [hp _ _ (by rw [e]; simp [AVal.ids0]) hid hM]
     simp only
     rw [if_pos hle]
    ·cases h
   ·cases h
  ·split at h
   ·rename_i cs e hle
    injection h with h; subst h
    refine ⟨rfl,fun {M2} z hp {j w v} hz hr=>?_⟩
    rw [if_pos hle]
   ·cases h
  ·rename_i id ver i off e
   split at h
   ·rename_i sz v0 xs hM
    split at h
    ·rename_i hv0
     obtain ⟨el,hel,h⟩:=obind_inv h
     split at h
     ·rename_i hle
      injection h with h; subst h
      refine ⟨rfl,fun {M2} z hp {j w v} hz hr=>?_⟩
      have:z=y:=by rcases hz with hz|⟨n',hz⟩|⟨_,_,_,_,hz⟩<;>cases hz<;>rfl
      subst this
      rw [e] at hr
      obtain ⟨_,hid,_⟩:=hr.eptr_inv
      rw [hp _ _ (by rw [e]; simp [AVal.ids0]) hid hM]
      simp only [hel,obind_some]
      rw [if_pos hv0,if_pos hle]
     ·cases h
    ·cases h
   ·cases h
  ·cases h
 case load1 y =>
  simp only [aop] at h ⊢
  split at h
  ·rename_i id off e
   split at h
   ·rename_i cs hM
    obtain ⟨c,hc,h⟩:=obind_inv h
    injection h with h; subst h
    refine ⟨rfl,fun {M2} z hp {j w v} hz hr=>?_⟩
    have:z=y:=by rcases hz with hz|⟨n',hz⟩|⟨_,_,_,_,hz⟩<;>cases hz<;>rfl
    subst this
    rw [e] at hr
    obtain ⟨b,hid,_⟩:=hr.ptr_inv
    rw [hp _ _ (by rw [e]; simp [AVal.ids0]) hid hM]
    simp only [hc,obind_some]
   ·cases h
  ·obtain ⟨c,hc,h⟩:=obind_inv h
   injection h with h; subst h
   exact ⟨rfl,fun {M2} hp {j w v} z hz hr=>by simp only [hc,obind_some]⟩
  ·rename_i id ver i off e
   split at h
   ·rename_i sz v0 xs hM
    split at h
    ·rename_i hv0
     obtain ⟨el,hel,h⟩:=obind_inv h
     obtain ⟨c,hc,h⟩:=obind_inv h
     injection h with h; subst h
     refine ⟨rfl,fun {M2} z hp {j w v} hz hr=>?_⟩
     have:z=y:=by rcases hz with hz|⟨n',hz⟩|⟨_,_,_,_,hz⟩<;>cases hz<;>rfl
     subst this
     rw [e] at hr
     obtain ⟨_,hid,_⟩:=hr.eptr_inv
     rw [hp _ _ (by rw [e]; simp [AVal.ids0]) hid hM]
     simp only [hel,hc,obind_some]
     rw [if_pos hv0]
    ·cases h
   ·cases h
  ·cases h
 case look fk zr ok y k =>
  simp only [aop] at h ⊢
  obtain ⟨e,he,h⟩:=obind_inv h
  obtain ⟨r,hr',h⟩:=obind_inv h
  injection h with h; subst h
  refine ⟨rfl,fun {M2} z hp {j w v} hz hr=>?_⟩
  have:z=y:=by rcases hz with hz|⟨n',hz⟩|⟨_,_,_,_,hz⟩<;>cases hz<;>rfl
  subst this
  have:mapOf M2 (z.ev env)=some e:=by
   unfold mapOf at he ⊢
   split at he
   ·rename_i id e0
    rw [e0] at hr
    obtain ⟨b,⟨ks,vs,hm⟩,_⟩:=hr.mref_inv
    split at he
    ·rename_i ks' vs' hM
     rw [hp _ _ (by rw [e0]; simp [AVal.ids0]) (lt_of_some hm) hM]
     exact he
    ·cases he
   ·exact he
   ·cases he
  rw [this,obind_some,hr',obind_some]
end
end Go.Abs
namespace Go.Abs
open Go Go.RowKit
variable [Globs]
section
variable {P:Program} {C:CallF} {A:Ann}
def StepOk (C:CallF) (o:AOper) (env:Env) (M:AMem) (v:AVal) (M':AMem):Prop :=
 ((∀t want,o.guard=some (t,want)→getS env t = .bool want)∧astep C o env M=some (v,M')) ∨
 (∃t want,o.guard=some (t,want)∧(getS env t = .bool (!want)∨getS env t = .tuple [])∧v = .tuple []∧M'=M)
def envL (env:Env) (l:List AOper) (vals:Nat→AVal) (L:Nat→Bool):Nat→Env
 |0=>env
 |k+1=>match l[k]? with
  |some o=>if L k then putS (envL env l vals L k) o.dst (vals k) else envL env l vals L k
  |none=>envL env l vals L k
theorem envL_cons (env:Env) (o:AOper) (r:List AOper) (vals:Nat→AVal):∀k,envL env (o::r) vals (fun _=>true) (k+1)=envL (putS env o.dst (vals 0)) r (fun i=>vals (i+1)) (fun _=>true) k
 |0=>rfl
 |k+1=>by
  rw [envL,envL_cons env o r vals k]
  simp only [List.getElem?_cons_succ,envL]
theorem trace:∀ {l:List AOper} {env:Env} {M:AMem} {x:Env×AMem},aregion C l env M=some x→∃(vals:Nat→AVal) (mems:Nat→AMem),mems 0=M ∧
  (∀(k:Nat) (o:AOper),l[k]?=some o→StepOk C o (envL env l vals (fun _=>true) k) (mems k) (vals k) (mems (k+1)))∧x=(envL env l vals (fun _=>true) l.length,mems l.length)
 | [],env,M,x,h=>by
  simp only [aregion] at h; injection h with h
  exact ⟨fun _ => .any,fun _=>M,rfl,fun k o h=>by simp at h,h.symm⟩
 |o::r,env,M,x,h=>by
  have key:∀(v:AVal) (M':AMem),StepOk C o env M v M'→aregion C r (putS env o.dst v) M'=some x→∃(vals:Nat→AVal) (mems:Nat→AMem),mems 0=M ∧
    (∀(k:Nat) (p:AOper),(o::r)[k]?=some p→StepOk C p (envL env (o::r) vals (fun _=>true) k) (mems k) (vals k) (mems (k+1)))∧x=(envL env (o::r) vals (fun _=>true) (o::r).length,mems (o::r).length):=by
   intro v M' hs hr
   obtain ⟨vals,mems,h1,h2,h3⟩:=trace hr
   refine ⟨fun i=>match i with|0=>v|i+1=>vals i,fun i=>match i with|0=>M|i+1=>mems i,rfl,fun k p hp=>?_,?_⟩
   ·cases k with
    |zero =>
     simp at hp; subst hp
     simp only [envL,h1]
     exact hs
    |succ k =>
     rw [envL_cons]
     exact h2 k p (by simpa using hp)
   ·rw [List.length_cons,envL_cons]
    exact h3
  rcases aregion_cons_inv h with ⟨y,h1,h2,h3⟩|⟨t,want,h1,h2,h3⟩
  ·exact key y.1 y.2 (.inl ⟨h1,h2⟩) h3
  ·exact key (.tuple []) M (.inr ⟨t,want,h1,h2,rfl,rfl⟩) h3
section
variable {env:Env} {l:List AOper} {vals:Nat→AVal} {L L':Nat→Bool} {t:Nat}
def wr (l:List AOper) (k t:Nat):Prop:=∃o,l[k]?=some o∧o.dst=some t
theorem envL_at (k:Nat) (h:wr l k t) (hL:L k=true):getS (envL env l vals L (k+1)) t=vals k:=by
 obtain ⟨o,h1,h2⟩:=h
 rw [envL,h1]
 simp only [hL,if_true,putS,h2,getS]
theorem envL_pass (k:Nat) (h:¬(wr l k t∧L k=true)):getS (envL env l vals L (k+1)) t=getS (envL env l vals L k) t:=by
 rw [envL]
 split
 ·rename_i o ho
  split
  ·rename_i hk
   unfold putS
   split
   ·rename_i d hd
    rw [getS,if_neg]
    rintro rfl
    exact h ⟨⟨o,ho,hd⟩,hk⟩
   ·rfl
  ·rfl
 ·rfl
theorem envL_skip {i:Nat}:∀n,i≤n→(∀k,i≤k→k<n→¬(wr l k t∧L k=true))→getS (envL env l vals L n) t=getS (envL env l vals L i) t
 |0,hi,_=>by rw [show i=0 by omega]
 |n+1,hi,h=>by
  by_cases he:i=n+1
  ·rw [he]
  ·rw [envL_pass n (h n (by omega) (by omega))]
   exact envL_skip n (by omega) fun k h1 h2=>h k h1 (by omega)
theorem envL_same:∀n,(∀k,k<n→wr l k t→L k=L' k)→getS (envL env l vals L n) t=getS (envL env l vals L' n) t
 |0,_=>rfl
 |n+1,h=>by
  have ih:=envL_same n fun k hk=>h k (by omega)
  by_cases hw:wr l n t
  ·have e:=h n (by omega) hw
   cases hL:L n with
   |true=>rw [envL_at n hw hL,envL_at n hw (by rw [←e]; exact hL)]
   |false=>rw [envL_pass n (by simp [hL]),envL_pass n (by rw [←e]; simp [hL])]; exact ih
  ·rw [envL_pass n (fun h=>hw h.1),envL_pass n (fun h=>hw h.1)]; exact ih
end
def memL (mems:Nat→AMem) (E:Nat→Bool) (L:Nat→Bool):Nat→AMem
 |0=>mems 0
 |k+1=>if L k&&E k then mems (k+1) else memL mems E L k
theorem memL_last {mems:Nat→AMem} {E L:Nat→Bool}:∀n,∃q,q≤n∧memL mems E L n=mems q∧(∀k,q≤k→k<n→E k=true→L k=false)∧(q=0∨∃p,q=p+1∧E p=true∧L p=true)
 |0=>⟨0,Nat.le_refl _,rfl,fun k h1 h2=>by omega,.inl rfl⟩
 |n+1=>by
  by_cases h:(L n&&E n)=true
  ·rw [Bool.and_eq_true] at h
   exact ⟨n+1,Nat.le_refl _,by simp [memL,h.1,h.2],fun k h1 h2=>by omega,.inr ⟨n,rfl,h.2,h.1⟩⟩
  ·obtain ⟨q,h1,h2,h3,h4⟩:=memL_last (mems:=mems) (E:=E) (L:=L) n
   refine ⟨q,by omega,by rw [memL,if_neg h]; exact h2,fun k hk1 hk2 hE=>?_,h4⟩
   by_cases he:k=n
   ·subst he
    cases hL:L k with
    |false=>rfl
    |true=>exact absurd (by simp [hL,hE]) h
   ·exact h3 k hk1 (by omega) hE
def left (L:Nat→Bool):Nat→Nat
 |0=>0
 |k+1=>left L k+if L k then 0 else 1
theorem left_zero {L:Nat→Bool}:∀ {n},left L n=0→∀k,k<n→L k=true
 |0,_,k,hk=>by omega
 |n+1,h,k,hk=>by
  rw [left] at h
  by_cases he:k=n
  ·subst he
   cases hL:L k with
   |true=>rfl
   |false=>rw [hL] at h; simp at h
  ·exact left_zero (n:=n) (by omega) k (by omega)
theorem left_set {L L':Nat→Bool} {i:Nat} (hi:L i=false) (hi':L' i=true) (hne:∀k,k≠i→L' k=L k):∀n,left L n=left L' n+if i<n then 1 else 0
 |0=>by simp [left]
 |n+1=>by
  have ih:=left_set hi hi' hne n
  rw [left,left,ih]
  by_cases he:n=i
  ·subst he
   simp [hi,hi']
  ·rw [hne n he]
   by_cases h:i<n
   ·simp [h,show i<n+1 by omega]; omega
   ·simp [h,show ¬i<n+1 by omega]
theorem withFlags_get {bs:List Nat} {l:List AOper}:∀(r:List AOper) (k m:Nat) (y:AOper),(withFlags bs l k r)[m]?=some y→∃x,r[m]?=some x∧y.dst=x.dst∧y.op=x.op∧y.guard=x.guard
 | [],k,m,y,h=>by simp [withFlags] at h
 |x::r,k,m,y,h=>by
  rw [withFlags] at h
  cases m with
  |zero=>simp at h; subst h; exact ⟨x,rfl,rfl,rfl,rfl⟩
  |succ m =>
   obtain ⟨z,h1,h2⟩:=withFlags_get r (k+1) m y (by simpa using h)
   exact ⟨z,by simpa using h1,h2⟩
theorem withFlags_len {bs:List Nat} {l:List AOper}:∀(r:List AOper) (k:Nat),(withFlags bs l k r).length=r.length
 | [],_=>rfl
 |x::r,k=>by rw [withFlags,List.length_cons,withFlags_len r (k+1),List.length_cons]
theorem cOpers_get {ops:Array Oper}:∀ {r:List Oper} {g:List Bool} {l:List AOper},cOpers P A ops g r=some l→l.length=r.length∧∀(k:Nat) (o:Oper),r[k]?=some o→∃x b,l[k]?=some x∧cOper P A ops b o=some x
 | [],g,l,h=>by simp [cOpers] at h; subst h; exact ⟨rfl,fun k o h=>by simp at h⟩
 |o::r,g,l,h=>by
  simp only [cOpers] at h
  obtain ⟨x,hx,h⟩:=bind_inv h
  obtain ⟨l',hl,h⟩:=bind_inv h
  injection h with h; subst h
  obtain ⟨h1,h2⟩:=cOpers_get hl
  refine ⟨by simp [h1],fun k p hp=>?_⟩
  cases k with
  |zero=>simp at hp; subst hp; exact ⟨x,_,rfl,hx⟩
  |succ k =>
   obtain ⟨y,b,g1,g2⟩:=h2 k p (by simpa using hp)
   exact ⟨y,b,by simpa using g1,g2⟩
structure Ord (ops:Array Oper) (l:List AOper):Prop where
 len:l.length=ops.size
 edge:∀(k:Nat) (o:Oper) (e:Edge),ops[k]?=some o→e∈o.after.toList→Region.binds .any e=true→e.on<k
 alone:∀(k:Nat) (y:AOper),l[k]?=some y→y.nomem=true→y.op.isCall=true
 opl:∀(k:Nat) (y:AOper),l[k]?=some y→okLoad y.op=true
 fence:∀(k i:Nat) (y x:AOper),l[k]?=some y→y.isE'=true→y.grow=false→l[i]?=some x→x.op.isL=true→(i<k→ahead (befs ops.toList) i k=true)∧(k<i→ahead (befs ops.toList) k i=true)
 sep:∀(k i:Nat) (y x:AOper),l[k]?=some y→y.sep≠[]→l[i]?=some x→x.op.isL=true→(k<i→ahead (befs ops.toList) k i=true)∧(i<k→ahead (befs ops.toList) i k=true∨∃z,x.op.slotL=some z∧z∈y.sep∧noWr l i k z=true)
 meet:∀(i k:Nat) (x y:AOper),i<k→l[i]?=some x→l[k]?=some y→meet x y=true→ahead (befs ops.toList) i k=true
 eff:∀(i k:Nat) (x y:AOper),i<k→l[i]?=some x→l[k]?=some y→x.isE'=true→y.isE'=true→ahead (befs ops.toList) i k=true
theorem ord_of {ops:Array Oper} {l:List AOper} (hlen:l.length=ops.size) (h:orderOk ops (befs ops.toList) l=true):Ord ops l:=by
 unfold orderOk at h
 have hk:∀(k:Nat) (y:AOper) (o:Oper),l[k]?=some y→ops[k]?=some o→(o.after.toList.all (fun e => !Region.binds .any e||decide (e.on<k))=true∧((!y.nomem||y.op.isCall)&&okLoad y.op)=true∧((!(y.isE' && !y.grow)||fenced (befs ops.toList) l k)&&(y.sep.isEmpty||sepGood (befs ops.toList) l k y.sep))=true) ∧
   ∀(i:Nat) (x:AOper),i<k→l[i]?=some x→(!Go.Abs.meet x y||ahead (befs ops.toList) i k)=true∧(!(x.isE'&&y.isE')||ahead (befs ops.toList) i k)=true:=by
  intro k y o hy ho
  have h1:=List.all_eq_true.1 h k (List.mem_range.2 (lt_of_some hy))
  rw [nth_eq,hy,ho] at h1
  rw [Bool.and_eq_true,Bool.and_eq_true,Bool.and_eq_true] at h1
  obtain ⟨⟨⟨a1,a2⟩,a3⟩,a4⟩:=h1
  refine ⟨⟨a1,a2,a3⟩,fun i x hi hx=>?_⟩
  have h2:=List.all_eq_true.1 a4 i (List.mem_range.2 hi)
  rw [nth_eq,hx] at h2
  simpa [Bool.and_eq_true] using h2
 have hop:∀k,k<l.length→∃o,ops[k]?=some o:=fun k hk=>⟨ops[k]'(by omega),Array.getElem?_eq_getElem (by omega)⟩
 refine ⟨hlen,fun k o e ho he hb=>?_,fun k y hy hn=>?_,fun k y hy=>?_,fun k i y x hy hE hg hx hl=>?_,fun k i y x hy hsp hx hl=>?_,fun i k x y hi hx hy hm=>?_,fun i k x y hi hx hy hE hE'=>?_⟩
 ·have hkl:k<l.length:=by rw [hlen]; exact (Array.getElem?_eq_some_iff.1 ho).1
  have:=List.all_eq_true.1 (hk k _ o (List.getElem?_eq_getElem hkl) ho).1.1 e he
  simpa [hb] using this
 ·obtain ⟨o,ho⟩:=hop k (lt_of_some hy)
  have:=(hk k y o hy ho).1.2.1
  rw [Bool.and_eq_true] at this
  simpa [hn] using this.1
 ·obtain ⟨o,ho⟩:=hop k (lt_of_some hy)
  have:=(hk k y o hy ho).1.2.1
  rw [Bool.and_eq_true] at this
  exact this.2
 ·obtain ⟨o,ho⟩:=hop k (lt_of_some hy)
  have h1:=(Bool.and_eq_true _ _▸(hk k y o hy ho).1.2.2:_∧_).1
  have h2:fenced (befs ops.toList) l k=true:=by simpa [hE,hg] using h1
  have h3:=List.all_eq_true.1 h2 i (List.mem_range.2 (lt_of_some hx))
  rw [nth_eq,hx] at h3
  simp only [hl,Bool.not_true,Bool.false_or] at h3
  refine ⟨fun hik=>by rw [if_pos hik] at h3; exact h3,fun hki=>?_⟩
  rw [if_neg (by omega)] at h3
  have:¬i=k:=by omega
  simpa [this] using h3
 ·obtain ⟨o,ho⟩:=hop k (lt_of_some hy)
  have h1:=(Bool.and_eq_true _ _▸(hk k y o hy ho).1.2.2:_∧_).2
  have h2:sepGood (befs ops.toList) l k y.sep=true:=by
   have:y.sep.isEmpty=false:=by cases he:y.sep with
    |nil=>exact absurd he hsp
    |cons=>rfl
   simpa [this] using h1
  have h3:=List.all_eq_true.1 h2 i (List.mem_range.2 (lt_of_some hx))
  rw [nth_eq,hx] at h3
  simp only [hl,Bool.not_true,Bool.false_or] at h3
  refine ⟨fun hki=>?_,fun hik=>?_⟩
  ·have hne:(i==k)=false:=by simp; omega
   rw [hne,if_neg (by omega),Bool.false_or] at h3
   exact h3
  ·have hne:(i==k)=false:=by simp; omega
   rw [hne,if_pos hik,Bool.false_or,Bool.or_eq_true] at h3
   rcases h3 with h3|h3
   ·exact .inl h3
   ·right
    split at h3
    ·rename_i z hz
     rw [Bool.and_eq_true] at h3
     exact ⟨z,hz,by simpa using h3.1,h3.2⟩
    ·cases h3
 ·obtain ⟨o,ho⟩:=hop k (lt_of_some hy)
  have:=((hk k y o hy ho).2 i x hi hx).1
  simpa [hm] using this
 ·obtain ⟨o,ho⟩:=hop k (lt_of_some hy)
  have:=((hk k y o hy ho).2 i x hi hx).2
  simpa [hE,hE'] using this
theorem memL_skip {mems:Nat→AMem} {E L:Nat→Bool} {i:Nat}:∀n,i≤n→(∀k,i≤k→k<n→E k=true→L k=false)→memL mems E L n=memL mems E L i
 |0,hi,_=>by rw [show i=0 by omega]
 |n+1,hi,h=>by
  by_cases he:i=n+1
  ·rw [he]
  ·rw [memL,if_neg,memL_skip n (by omega) fun k h1 h2=>h k h1 (by omega)]
   intro hc
   rw [Bool.and_eq_true] at hc
   rw [h n (by omega) (by omega) hc.2] at hc
   cases hc.1
theorem memL_same {mems:Nat→AMem} {E L L':Nat→Bool}:∀n,(∀k,k<n→E k=true→L k=L' k)→memL mems E L n=memL mems E L' n
 |0,_=>rfl
 |n+1,h=>by
  have ih:=memL_same (mems:=mems) n fun k hk=>h k (by omega)
  rw [memL,memL,ih]
  cases hE:E n with
  |true=>rw [h n (by omega) hE]
  |false=>simp
theorem memL_all {mems:Nat→AMem} {E L:Nat→Bool}:∀i,(∀k,k<i→E k=true→L k=true)→(∀k,k<i→E k=false→mems (k+1)=mems k)→memL mems E L i=mems i
 |0,_,_=>rfl
 |i+1,h1,h2=>by
  have ih:=memL_all (mems:=mems) (E:=E) (L:=L) i (fun k hk=>h1 k (by omega)) (fun k hk=>h2 k (by omega))
  rw [memL]
  cases hE:E i with
  |true=>rw [h1 i (by omega) hE]; rfl
  |false=>rw [h2 i (by omega) hE,←ih]; simp
theorem prefix_chain {mems:Nat→AMem} {i:Nat}:∀n,i≤n→(∀k,i≤k→k<n→mems k <+: mems (k+1))→mems i <+: mems n
 |0,hi,_=>by rw [show i=0 by omega]; exact List.prefix_refl _
 |n+1,hi,h=>by
  by_cases he:i=n+1
  ·rw [he]; exact List.prefix_refl _
  ·exact (prefix_chain n (by omega) fun k h1 h2=>h k h1 (by omega)).trans (h n (by omega) (by omega))
theorem EnvRep.of_get {j:J} {M:AMem} {w:World} {env env':Env} {a:Act} (h:EnvRep j M w env a) (he:∀t,getS env' t=getS env t):EnvRep j M w env' a:=⟨fun t=>by rw [he t]; exact h.at' t,h.gl⟩
theorem region_open (hmix:P.follows .mixedOrders=true) (hC:SoundC P C) {rd:Option Nat} {nd:Nat} {id:Nat} {ops:Array Oper} {l0 l:List AOper} (hl0:cOpers P A ops [] ops.toList=some l0) (hg:openOrder ops l0=some l)
  {env:Env} {M:AMem} {x:Env×AMem} (hx:aregion C l env M=some x) {j:J} {w:World} {a:Act} (hr:Rel j M w) (hG:Glob j M w) (he:EnvRep j M w env a) (hs:a.tmps.size=A.n) {Q:Exit→Act→World→Prop}
  (hQ:∀a' w' j',Rel j' x.2 w'→EnvRep j' x.2 w' x.1 a'→Ext j M w j' x.2 w'→a'.tmps.size=A.n→a'.defers=a.defers→Q .normal a' w'):(Code.region id ops true).wpIn (Wd rd) nd P Q a w:=by
 obtain ⟨c1,c2⟩:=cOpers_get hl0
 have hlen0:l0.length=ops.size:=by simpa using c1
 unfold openOrder at hg
 split at hg
 case isFalse=>cases hg
 rename_i hok
 injection hg with hg
 rw [hg] at hok
 have hlen:l.length=ops.size:=by rw [←hg,withFlags_len]; exact hlen0
 have od:=ord_of hlen hok
 have hop:∀(k:Nat) (y:AOper),l[k]?=some y→∃o x0 b,ops[k]?=some o∧cOper P A ops b o=some x0∧y.dst=x0.dst∧y.op=x0.op∧y.guard=x0.guard:=by
  intro k y hy
  rw [←hg] at hy
  obtain ⟨x0,h1,h2,h3,h4⟩:=withFlags_get _ _ _ _ hy
  have hk:k<ops.size:=by rw [←hlen0]; exact lt_of_some h1
  have ho:ops[k]?=some ops[k]:=Array.getElem?_eq_getElem hk
  obtain ⟨x1,b,h5,h6⟩:=c2 k ops[k] (by simp [hk])
  rw [h1] at h5; injection h5 with h5; subst h5
  exact ⟨_,x0,b,ho,h6,h2,h3,h4⟩
 obtain ⟨vals,mems,m0,st,hxe⟩:=trace hx
 let E:Nat→Bool:=fun k=>match l[k]? with|some y=>y.isE'|none=>false
 have hE:∀ {k:Nat} {y:AOper},l[k]?=some y→E k=y.isE':=fun {k y} h=>by simp only [E,h]
 have hEs:∀ {k:Nat},E k=true→∃y,l[k]?=some y∧y.isE'=true:=fun {k} h=>by
  simp only [E] at h
  split at h
  ·exact ⟨_,by assumption,h⟩
  ·cases h
 -- memory stays at what is no effect,and grows at what may
 have stays:∀k,k<l.length→E k=false→mems (k+1)=mems k:=by
  intro k hk hEk
  have hy:=List.getElem?_eq_getElem hk
  rw [hE hy] at hEk
  rcases st k _ hy with ⟨_,h⟩|⟨_,_,_,_,_,h⟩
  ·rcases astep_inv h with ⟨hn,hi,h1⟩|⟨hn,_,h1⟩|⟨hn,_,_,h1⟩
   ·exact (alone_op (od.alone k _ hy hn) h1 hi).1
   all_goals
    have hE0:l[k].op.isE=false:=by simpa [AOper.isE',hn] using hEk
    cases hl:l[k].op.isL with
    |true=>exact (load_mem hl h1).1
    |false=>exact (pure_op hE0 hl h1).1
  ·exact h
 have grows:∀k (y:AOper),l[k]?=some y→y.isE'=true→y.grow=true→mems k <+: mems (k+1)∨(y.sep≠[]∧sepAll (envL env l vals (fun _=>true) k) (mems k) (mems (k+1)) y.sep):=by
  intro k y hy hEy hgr
  rcases st k y hy with ⟨_,h⟩|⟨_,_,_,_,_,h⟩
  ·rcases astep_inv h with ⟨hn,_,_⟩|⟨_,hg',_⟩|⟨_,_,hp,_⟩
   ·simp [AOper.isE',hn] at hEy
   ·rw [hgr] at hg'; cases hg'
   ·exact hp
  ·rw [h]; exact .inl (List.prefix_refl _)
 refine wpIn_region_any hmix ?_
 have key:∀(fuel:Nat) (listed:Array Bool) (a1:Act) (w1:World),listed.size=ops.size→left (fun k=>listed.getD k false) l.length=fuel→Down ops (fun k=>listed.getD k false) →
   (∃j1,Rel j1 (memL mems E (fun k=>listed.getD k false) l.length) w1∧EnvRep j1 (memL mems E (fun k=>listed.getD k false) l.length) w1 (envL env l vals (fun k=>listed.getD k false) l.length) a1 ∧
    Ext j M w j1 (memL mems E (fun k=>listed.getD k false) l.length) w1∧a1.tmps.size=A.n∧a1.defers=a.defers)→wpAnyIn (Wd rd) nd P .any ops Q fuel listed a1 w1:=by
  have ends:∀(listed:Array Bool) (a1:Act) (w1:World),(∀k,k<l.length→listed.getD k false=true) →
    (∃j1,Rel j1 (memL mems E (fun k=>listed.getD k false) l.length) w1∧EnvRep j1 (memL mems E (fun k=>listed.getD k false) l.length) w1 (envL env l vals (fun k=>listed.getD k false) l.length) a1 ∧
    Ext j M w j1 (memL mems E (fun k=>listed.getD k false) l.length) w1∧a1.tmps.size=A.n∧a1.defers=a.defers)→Q .normal a1 w1:=by
   intro listed a1 w1 hall hI
   obtain ⟨j1,r1,e1,x1,s1,d1⟩:=hI
   have hm:memL mems E (fun k=>listed.getD k false) l.length=mems l.length:=memL_all _ (fun k hk _=>hall k hk) stays
   rw [hm] at r1 e1 x1
   rw [hxe] at hQ
   exact hQ a1 w1 j1 r1 (e1.of_get fun t=>envL_same _ fun k hk _=>(hall k hk).symm) x1 s1 d1
  intro fuel
  induction fuel with
  |zero =>
   intro listed a1 w1 hsz hleft hd hI
   have hall:=left_zero hleft
   refine ⟨?_,ends listed a1 w1 hall hI⟩
   apply List.eq_nil_iff_forall_not_mem.2
   intro i hi
   obtain ⟨h1,oi,h2,_⟩:=mem_ready.1 hi
   have hil:i<l.length:=by rw [hlen]; exact (Array.getElem?_eq_some_iff.1 h2).1
   have h3:=hall i hil
   simp only [Array.getD_eq_getD_getElem?] at h1 h3
   have:i<listed.size:=by omega
   rw [Array.getElem?_eq_getElem this] at h1 h3
   simp at h1 h3
   rw [h1] at h3; cases h3
  |succ fuel ih =>
   intro listed a1 w1 hsz hleft hd hI
   refine ⟨fun hnil=>?_,fun i hi=>?_⟩
   ·refine ends listed a1 w1 ?_ hI
    intro k
    induction k using Nat.strongRecOn with
    |_ k ihk =>
     intro hk
     cases hL:listed.getD k false with
     |true=>rfl
     |false =>
      exfalso
      have hks:k<ops.size:=by omega
      have ho:ops[k]?=some ops[k]:=Array.getElem?_eq_getElem hks
      have:k∈Region.ready .any ops listed:=by
       refine mem_ready.2 ⟨?_,_,ho,fun e he hb=>?_⟩
       ·simp only [Array.getD_eq_getD_getElem?] at hL ⊢
        have hkl:k<listed.size:=by omega
        rw [Array.getElem?_eq_getElem hkl] at hL ⊢
        simpa using hL
       ·have:=od.edge k _ e ho (by simpa using he) hb
        exact ihk e.on this (by omega)
      rw [hnil] at this
      cases this
   ·obtain ⟨hun0,o,ho,hall⟩:=mem_ready.1 hi
    obtain ⟨j1,r1,e1,x1,s1,d1⟩:=hI
    have his:i<ops.size:=(Array.getElem?_eq_some_iff.1 ho).1
    have hil:i<l.length:=by omega
    have hils:i<listed.size:=by omega
    have hLi:listed.getD i false=false:=by
     simp only [Array.getD_eq_getD_getElem?] at hun0 ⊢
     rw [Array.getElem?_eq_getElem hils] at hun0 ⊢
     simpa using hun0
    have hL'i:(listed.setIfInBounds i true).getD i false=true:=by
     simp only [Array.getD_eq_getD_getElem?,Array.getElem?_setIfInBounds_self,hils,if_true]
     rfl
    have hL'ne:∀k,k≠i→(listed.setIfInBounds i true).getD k false=listed.getD k false:=fun k hk=>by
     simp only [Array.getD_eq_getD_getElem?,Array.getElem?_setIfInBounds_ne (Ne.symm hk)]
    have hy:=List.getElem?_eq_getElem hil
    obtain ⟨o',x0,b,ho',hco,f1,f2,f3⟩:=hop i _ hy
    rw [ho] at ho'; injection ho' with ho'; subst ho'
    obtain ⟨g1,g2,_,g4,g5⟩:=cOper_inv hco
    rw [←f2] at g1
    rw [←f1] at g2
    rw [←f3] at g5
    generalize hyy:l[i]=y at *
    have hall':∀e,e∈o.after.toList→Region.binds .any e=true→listed.getD e.on false=true:=fun e h1 h2=>hall e (by simpa using h1) h2
    have rdy:∀k,ahead (befs ops.toList) k i=true→listed.getD k false=true:=fun k h=>ahead_ready (L:=fun k=>listed.getD k false) hd od.edge ho hall' h
    have nol:∀k,k<l.length→ahead (befs ops.toList) i k=true→listed.getD k false=false:=fun k hk h=>by
     cases hL:listed.getD k false with
     |false=>rfl
     |true =>
      have:=ahead_in (L:=fun k=>listed.getD k false) hd od.edge k h (by omega) hL
      rw [hLi] at this; cases this
    have agree:∀t,t∈y.reads→getS (envL env l vals (fun k=>listed.getD k false) l.length) t=getS (envL env l vals (fun _=>true) i) t:=by
     intro t ht
     refine (envL_skip l.length (Nat.le_of_lt hil) fun k h1 h2=>?_).trans (envL_same i fun k hk hw=>?_)
     ·rintro ⟨⟨x',hx',hdx⟩,hLk⟩
      by_cases hki:k=i
      ·subst hki; rw [hLi] at hLk; cases hLk
      ·have hm:meet y x'=true:=by simp [meet,hdx,ht]
       rw [nol k h2 (od.meet i k y x' (by omega) hy hx' hm)] at hLk
       cases hLk
     ·obtain ⟨x',hx',hdx⟩:=hw
      have hm:meet x' y=true:=by simp [meet,hdx,ht]
      exact rdy k (od.meet k i x' y hk hx' hy hm)
    have newEnv:∀t,getS (envL env l vals (fun k=>(listed.setIfInBounds i true).getD k false) l.length) t=getS (putS (envL env l vals (fun k=>listed.getD k false) l.length) y.dst (vals i)) t:=by
     intro t
     by_cases hdt:y.dst=some t
     ·rw [hdt]
      simp only [putS,getS,if_true]
      rw [envL_skip (i:=i+1) l.length (by omega) fun k h1 h2=>?_]
      ·exact envL_at i ⟨y,hy,hdt⟩ hL'i
      ·rintro ⟨⟨x',hx',hdx⟩,hLk⟩
       rw [hL'ne k (by omega)] at hLk
       have hm:meet y x'=true:=by simp [meet,hdt,hdx]
       rw [nol k h2 (od.meet i k y x' (by omega) hy hx' hm)] at hLk
       cases hLk
     ·have e2:getS (putS (envL env l vals (fun k=>listed.getD k false) l.length) y.dst (vals i)) t=getS (envL env l vals (fun k=>listed.getD k false) l.length) t:=by
       unfold putS
       split
       ·rename_i d hd'
        rw [getS,if_neg]
        rintro rfl
        exact hdt hd'
       ·rfl
      rw [e2]
      refine envL_same _ fun k _ hw=>hL'ne k ?_
      rintro rfl
      obtain ⟨x',hx',hdx⟩:=hw
      rw [hy] at hx'; injection hx' with hx'; subst hx'
      exact hdt hdx
    have memE:E i=true→memL mems E (fun k=>listed.getD k false) l.length=mems i∧memL mems E (fun k=>(listed.setIfInBounds i true).getD k false) l.length=mems (i+1):=by
     intro hEi
     rw [hE hy] at hEi
     have late:∀k,i<k→k<l.length→E k=true→listed.getD k false=false:=fun k h1 h2 h3=>by
      obtain ⟨x',hx',hE'⟩:=hEs h3
      exact nol k h2 (od.eff i k y x' h1 hy hx' hEi hE')
     constructor
     ·rw [memL_skip (i:=i) l.length (by omega) fun k h1 h2 h3=>?_]
      ·refine memL_all i (fun k hk h3=>?_) fun k hk=>stays k (by omega)
       obtain ⟨x',hx',hE'⟩:=hEs h3
       exact rdy k (od.eff k i x' y hk hx' hy hE' hEi)
      ·by_cases hki:k=i
       ·subst hki; exact hLi
       ·exact late k (by omega) h2 h3
     ·rw [memL_skip (i:=i+1) l.length (by omega) fun k h1 h2 h3=>?_]
      ·rw [memL,if_pos]
       rw [hL'i,hE hy,hEi]; rfl
      ·rw [hL'ne k (by omega)]
       exact late k (by omega) h2 h3
    have memN:E i=false→memL mems E (fun k=>(listed.setIfInBounds i true).getD k false) l.length=memL mems E (fun k=>listed.getD k false) l.length:=by
     intro hEi
     refine memL_same _ fun k _ h3=>hL'ne k ?_
     rintro rfl
     rw [hEi] at h3; cases h3
    have down':Down ops (fun k=>(listed.setIfInBounds i true).getD k false):=by
     intro k p e hp hL he' hb
     have hsome:listed.getD e.on false=true:=by
      by_cases hki:k=i
      ·subst hki
       rw [ho] at hp; injection hp with hp; subst hp
       exact hall' e he' hb
      ·exact hd k p e hp (by show listed.getD k false=true; rw [←hL'ne k hki]; exact hL) he' hb
     show (listed.setIfInBounds i true).getD e.on false=true
     by_cases hei:e.on=i
     ·rw [hei]; exact hL'i
     ·rw [hL'ne _ hei]; exact hsome
    have left':left (fun k=>(listed.setIfInBounds i true).getD k false) l.length=fuel:=by
     have:=left_set (L:=fun k=>listed.getD k false) (L':=fun k=>(listed.setIfInBounds i true).getD k false) (i:=i) hLi hL'i (fun k hk=>hL'ne k hk) l.length
     rw [if_pos hil] at this
     omega
    have hgslot:∀t want,y.guard=some (t,want)→t∈y.reads:=fun t want h=>by simp [AOper.reads,h]
    have hopslot:∀t,t∈y.op.slots→t∈y.reads:=fun t h=>by simp [AOper.reads,h]
    unfold wpOpIn
    rw [ho]
    simp only
    rcases st i y hy with ⟨hgd,hstep⟩|⟨t,want,hgt,hgv,hv0,hm0⟩
    ·rw [if_pos (wanted_yes e1 s1 g5 fun t want h=>by rw [agree t (hgslot t want h)]; exact hgd t want h)]
     have haop:aop C (envL env l vals (fun k=>listed.getD k false) l.length) (memL mems E (fun k=>listed.getD k false) l.length) y.op =
       some (vals i,memL mems E (fun k=>(listed.setIfInBounds i true).getD k false) l.length):=by
      obtain ⟨q1,q2⟩:=aop_congr (C:=C) (M:=memL mems E (fun k=>listed.getD k false) l.length) (op:=y.op) fun t ht=>agree t (hopslot t ht)
      rw [q1]
      rcases astep_inv hstep with ⟨hn,hids,h1⟩|⟨hn,hgr,h1⟩|⟨hn,hgr,hp,h1⟩
      ·rw [memN (by rw [hE hy]; simp [AOper.isE',hn])]
       exact (alone_op (od.alone i y hy hn) h1 hids).2 _
      all_goals
       cases hEo:y.op.isE with
       |true =>
        obtain ⟨k1,k2⟩:=memE (by rw [hE hy]; simp [AOper.isE',hn,hEo])
        rw [k1,k2]; exact h1
       |false =>
        rw [memN (by rw [hE hy]; simp [AOper.isE',hEo])]
        cases hlo:y.op.isL with
        |false=>exact (pure_op hEo hlo h1).2 _
        |true =>
         -- a load: the memory of the moment and that of the text agree at its box
         have hz:∃z,(y.op = .load1 z∨(∃n,y.op = .loadA n z)∨∃fk zr ok k,y.op = .look fk zr ok z k)∧∀t,t∈z.slots→t∈y.op.slots:=by
          generalize y.op=op at hlo
          cases op<;>simp only [AOp.isL,Bool.false_eq_true] at hlo
          case loadA n z=>exact ⟨z,.inr (.inl ⟨n,rfl⟩),fun t h=>h⟩
          case look fk zr ok z k=>exact ⟨z,.inr (.inr ⟨fk,zr,ok,k,rfl⟩),fun t h=>by simp [AOp.slots,h]⟩
          case load1 z=>exact ⟨z,.inl rfl,fun t h=>h⟩
         obtain ⟨z,hz1,hz2⟩:=hz
         have hrep:∃v,Rep j1 (memL mems E (fun k=>listed.getD k false) l.length) w1 (z.ev (envL env l vals (fun _=>true) i)) v:=by
          rw [←ev_congr (x:=z) fun t ht=>agree t (hopslot t (hz2 t ht))]
          cases z with
          |tmp t=>exact ⟨_,e1.at' t⟩
          |cst c =>
           have:=od.opl i y hy
           rcases hz1 with hz1|⟨n,hz1⟩|⟨_,_,_,_,hz1⟩<;>(rw [hz1] at this; cases this)
         obtain ⟨v,hv⟩:=hrep
         have hsame:∀id b,id∈(z.ev (envL env l vals (fun _=>true) i)).ids0→id<(memL mems E (fun k=>listed.getD k false) l.length).length→nth (mems i) id=some b→nth (memL mems E (fun k=>listed.getD k false) l.length) id=some b:=by
          intro id bx hidz hidl hbx
          obtain ⟨q,hq1,hq2,hq3,hq4⟩:=memL_last (mems:=mems) (E:=E) (L:=fun k=>listed.getD k false) l.length
          rw [hq2] at hidl ⊢
          have hni:E i=false:=by rw [hE hy]; simp [AOper.isE',hEo]
          by_cases hqi:q≤i
          ·refine prefix_same (.inr (prefix_chain i hqi fun k h2 h3=>?_)) hidl hbx
           cases hEk:E k with
           |false=>rw [stays k (by omega) hEk]; exact List.prefix_refl _
           |true =>
            obtain ⟨y',hz1',hz2'⟩:=hEs hEk
            have hunl:¬listed.getD k false=true:=by
             have h5:=hq3 k h2 (by omega) (by rw [hE hz1']; exact hz2')
             rw [h5]; simp
            cases hzg:y'.grow with
            |false=>exact absurd (rdy k ((od.fence k i y' y hz1' hz2' hzg hy hlo).2 h3)) hunl
            |true =>
             rcases grows k y' hz1' hz2' hzg with hg'|⟨hsp,_⟩
             ·exact hg'
             ·exact absurd (rdy k ((od.sep k i y' y hz1' hsp hy hlo).1 h3)) hunl
          ·have chain:∀n,i≤n→n≤q→nth (mems n) id=some bx:=by
            intro n
            induction n with
            |zero=>intro h0 _; rw [show 0=i by omega]; exact hbx
            |succ n ihn =>
             intro h0 h0'
             by_cases he:i=n+1
             ·rw [←he]; exact hbx
             ·have hb':=ihn (by omega) (by omega)
              cases hEk:E n with
              |false=>rw [stays n (by omega) hEk]; exact hb'
              |true =>
               obtain ⟨y',hz1',hz2'⟩:=hEs hEk
               have hkni:n≠i:=by rintro rfl; rw [hEk] at hni; cases hni
               have hdone:listed.getD n false=true:=by
                rcases hq4 with h0|⟨p,hp1,hp2,hp3⟩
                ·omega
                ·by_cases hkp:n=p
                 ·subst hkp; exact hp3
                 ·obtain ⟨zp,hzp1,hzp2⟩:=hEs hp2
                  exact ahead_in (L:=fun k=>listed.getD k false) hd od.edge p (od.eff n p y' zp (by omega) hz1' hzp1 hz2' hzp2) (by omega) hp3
               have hnol:ahead (befs ops.toList) i n=true→False:=fun ha=>by
                have:=nol n (by omega) ha
                rw [this] at hdone; cases hdone
               cases hzg:y'.grow with
               |false=>exact absurd ((od.fence n i y' y hz1' hz2' hzg hy hlo).1 (by omega)) hnol
               |true =>
                rcases grows n y' hz1' hz2' hzg with hg'|⟨hsp,hsa⟩
                ·obtain ⟨t,ht⟩:=hg'
                 rw [nth_eq] at hb' ⊢
                 rw [←ht,List.getElem?_append_left (lt_of_some hb')]
                 exact hb'
                ·rcases (od.sep n i y' y hz1' hsp hy hlo).2 (by omega) with ha|⟨zs,hzs,hmem,hnw⟩
                 ·exact (hnol ha).elim
                 ·have hslot:z = .tmp zs:=by
                   rcases hz1 with hz1|⟨m,hz1⟩|⟨_,_,_,_,hz1⟩<;>(rw [hz1] at hzs; cases z<;>simp [AOp.slotL] at hzs; rw [hzs])
                  subst hslot
                  have hsame0:getS (envL env l vals (fun _=>true) n) zs=getS (envL env l vals (fun _=>true) i) zs:=by
                   refine envL_skip n (by omega) fun p hp1 hp2=>?_
                   rintro ⟨⟨x',hx',hdx⟩,_⟩
                   have:=List.all_eq_true.1 hnw p (List.mem_range.2 hp2)
                   rw [nth_eq,hx'] at this
                   simp [hdx,Nat.not_lt.2 hp1] at this
                  have hat:∀ {sl:List Nat},sepAll (envL env l vals (fun _=>true) n) (mems n) (mems (n+1)) sl→zs∈sl→nth (mems (n+1)) id=nth (mems n) id:=by
                   intro sl
                   induction sl with
                   |nil=>intro _ h; cases h
                   |cons z0 r0 ih0 =>
                    intro hs hm
                    rcases List.mem_cons.1 hm with rfl|hm
                    ·have h6:=hs.1
                     rw [hsame0] at h6
                     simp only [Opd.ev] at hidz
                     split at h6
                     ·rename_i id' off' he'
                      rw [he'] at hidz
                      simp [AVal.ids0] at hidz
                      subst hidz
                      exact h6
                     ·exact h6.elim
                    ·exact ih0 hs.2 hm
                  rw [hat hsa hmem]; exact hb'
           exact chain q (by omega) (Nat.le_refl _)
         exact (load_mem hlo h1).2 z hsame hz1 hv
     refine OpRuns.wpIn (no_defer g1) (op_sound hC g1 haop r1 (hG.mono x1) e1 fun v w' hok=>?_)
     obtain ⟨j',p1,p2,p3⟩:=hok
     refine ih (listed.setIfInBounds i true) _ w' (by simpa using hsz) left' down' ⟨j',p1,?_,x1.trans p2,by rw [put_size]; exact s1,by rw [put_defers]; exact d1⟩
     refine EnvRep.of_get ?_ newEnv
     rw [g2]
     exact (e1.mono p2).put s1 g4 p3
    ·rw [if_neg (by rw [wanted_no e1 s1 g5 hgt (by rw [agree t (hgslot t want hgt)]; exact hgv)]; simp)]
     have hmem:memL mems E (fun k=>(listed.setIfInBounds i true).getD k false) l.length=memL mems E (fun k=>listed.getD k false) l.length:=by
      cases hEi:E i with
      |true=>obtain ⟨k1,k2⟩:=memE hEi; rw [k1,k2,hm0]
      |false=>exact memN hEi
     refine ⟨fun _ _=>trivial,?_⟩
     refine ih (listed.setIfInBounds i true) _ w1 (by simpa using hsz) left' down' ⟨j1,by rw [hmem]; exact r1,?_,by rw [hmem]; exact x1,by rw [put_size]; exact s1,by rw [put_defers]; exact d1⟩
     refine EnvRep.of_get ?_ newEnv
     rw [g2,hmem,hv0]
     exact e1.put s1 g4 (.tuple (vs := #[]) rfl fun i c v h=>by simp at h)
 have q:Quiet w { w with drawn:=w.drawn+1 }:=⟨Nat.le_refl _,rfl,rfl,rfl⟩
 have hrep:∀k,(Array.replicate ops.size false).getD k false=false:=fun k=>by
  simp only [Array.getD_eq_getD_getElem?,Array.getElem?_replicate]
  split<;>rfl
 have hm:memL mems E (fun k=>(Array.replicate ops.size false).getD k false) l.length=M:=by
  rw [memL_skip (i:=0) l.length (Nat.zero_le _) fun k _ _ _=>hrep k]
  exact m0
 have hleft:left (fun k=>(Array.replicate ops.size false).getD k false) l.length=ops.size:=by
  have:∀n,left (fun k=>(Array.replicate ops.size false).getD k false) n=n:=by
   intro n
   induction n with
   |zero=>rfl
   |succ n ihn=>rw [left,ihn,hrep n]; rfl
  rw [this,hlen]
 refine key ops.size _ a _ (by simp) hleft (fun k o e _ hL=>by rw [show (fun k=>(Array.replicate ops.size false).getD k false) k=false from hrep k] at hL; cases hL) ⟨j,?_,?_,?_,hs,rfl⟩
 ·rw [hm]; exact hr.grow q.size rfl rfl rfl fun _ _=>rfl
 ·rw [hm]
  refine EnvRep.of_get (EnvRep.mono he (Ext.grow q.size rfl rfl rfl fun _ _=>rfl)) fun t=>?_
  exact envL_skip (i:=0) l.length (Nat.zero_le _) fun k _ _ hc=>by have h2:=hc.2; rw [hrep k] at h2; cases h2
 ·rw [hm]; exact Ext.grow q.size rfl rfl rfl fun _ _=>rfl
end
end Go.Abs
namespace Go.Abs
open Go Go.RowKit
variable [Globs]
def exOf:AExit→Exit
 | .normal => .normal
 | .exit i => .exit i
 | .ret => .ret
theorem rounds_mono {F:Fence} {nd:Nat} {P:Program} {c:Code} {Q Q':Exit→Act→World→Prop} {n:Nat} {a:Act} {w:World} (h:Code.roundsIn F nd P c Q n a w) (hq:∀e a w,Q e a w→Q' e a w):Code.roundsIn F nd P c Q' n a w:=by
 induction n generalizing a w with
 |zero=>exact h
 |succ n ih =>
  rw [roundsIn_succ] at *
  refine wpIn_mono h fun e a' w' h'=>?_
  cases e<;>simp only [Exit.then] at h' ⊢ <;> first|exact ih h'|exact hq _ _ _ h'
theorem backM_len {base:Nat} {M:AMem} (hb:base≤M.length):(backM base M).length=base:=by simp [backM]; omega
theorem backM_get {base:Nat} {M:AMem} {i:Nat} (hi:i<base):(backM base M)[i]?=(M[i]?).map (ABox.back base M):=by
 simp [backM,List.getElem?_map,List.getElem?_take_of_lt hi]
theorem back_tag (base:Nat) (M:AMem) (b:ABox):(b.back base M).tag=b.tag:=by cases b<;>rfl
theorem back_fixed (base:Nat) (M:AMem) (b:ABox):(b.back base M).fixed=b.fixed:=by cases b<;>rfl
theorem back_loose {base:Nat} {M:AMem} {b:ABox} (h:b.fixed=false):b.back base M=b:=by cases b<;>first|rfl|cases h
section
variable {base:Nat} {M:AMem} {j:J} {w:World} (hb:base≤M.length)
include hb
theorem back_saf {b off:Nat} (h:Saf j M w b off):Saf j (backM base M) w b off:=by
 refine ⟨h.lt,fun id hid hj=>?_,h.nx⟩
 rw [backM_len hb] at hid
 obtain ⟨sz,n,h1,h2⟩:=h.ids id (by omega) hj
 exact ⟨sz,n,by rw [backM_get hid,h1]; rfl,h2⟩
theorem back_mono:∀b off,Saf j M w b off→Saf j (backM base M) w b off∧w.cell? ⟨b,off,none⟩=w.cell? ⟨b,off,none⟩:=fun b off hs=>⟨back_saf hb hs,rfl⟩
theorem back_at {id:Nat} (hlt:id<base) (hM:∀bx,M[id]?=some bx→bx.fixed=false):(backM base M)[id]?=M[id]?:=by
 have h0:=List.getElem?_eq_getElem (show id<M.length by omega)
 rw [backM_get hlt,h0,Option.map_some,back_loose (hM _ h0)]
variable (hr:Rel j M w)
include hr
theorem back0_rep {x:AVal} {v:Value} (h:Rep j M w x v):Rep j (backM base M) w (x.back0 base M) v:=by
 cases h with
 |plain h =>
  have:x.back0 base M=x:=by cases h<;>rfl
  rw [this]
  exact .plain (h.mono (back_mono hb))
 |c0 A=>exact .c0 A
 | @own k xs v sz n hk hn hp ht =>
  simp only [AVal.back0]
  split
  ·rename_i hlt
   exact .own (sz:=sz) (n:=n) (by rw [backM_get hlt,hk]; rfl) hn (hp.mono (back_mono hb)) ht
  ·exact .plain (hp.mono (back_mono hb))
 |agg=>exact .any _
 |tuple=>exact .any _
 | @ptr id off b hid hc hj =>
  simp only [AVal.back0]
  split
  ·rename_i hlt
   obtain ⟨cs,hc⟩:=hc
   exact .ptr (by rw [backM_len hb]; exact hlt) ⟨_,by rw [backM_get hlt,hc]; rfl⟩ hj
  ·exact .any _
 |rptr h=>exact .rptr fun k c hk=>⟨(h k c hk).1,back_saf hb (h k c hk).2.1,(h k c hk).2.2.mono (back_mono hb)⟩
 |func=>exact .any _
 | @mref id b hc hj =>
  simp only [AVal.back0]
  split
  ·rename_i hlt
   obtain ⟨ks,vs,hc⟩:=hc
   exact .mref ⟨_,_,by rw [backM_get hlt,hc]; rfl⟩ hj
  ·exact .any _
 | @iref id b hc hj =>
  simp only [AVal.back0]
  split
  ·rename_i hlt
   obtain ⟨ks,vs,hc⟩:=hc
   exact .iref ⟨_,_,by rw [backM_get hlt,hc]; rfl⟩ hj
  ·exact .any _
 |fmap hlt hf hx hw hk hv hks hvs =>
  exact .fmap hlt (fun i hi=>hf i (by rw [backM_len hb] at hi; omega)) hx hw hk hv (fun i k e h1 h2=>(hks i k e h1 h2).mono (back_mono hb)) (fun i k e h1 h2=>(hvs i k e h1 h2).mono (back_mono hb))
 | @bself id t b v hc hj hk hv =>
  simp only [AVal.back0]
  split
  ·rename_i hlt
   obtain ⟨cs,hc⟩:=hc
   exact .bself ⟨_,by rw [backM_get hlt,hc]; rfl⟩ hj hk hv
  ·exact .any _
 | @obuf k t n x l v hk hn hp ht =>
  simp only [AVal.back0]
  split
  ·rename_i hlt
   exact .obuf (n:=n) (by rw [backM_get hlt,hk]; rfl) hn (hp.mono (back_mono hb)) ht
  ·exact .any _
 |mfn hl hd=>exact .mfn hl fun i c v h1 h2=>(hd i c v h1 h2).mono (back_mono hb)
 | @aref id ver sz0 lo hi v h0 hid hM hv =>
  simp only [AVal.back0]
  split
  ·rename_i hlt
   have e:=back_at hb hlt hM
   exact .aref h0 (by rw [backM_len hb]; exact hlt) (fun bx hbx=>hM bx (e▸hbx)) fun sz v' xs h=>hv sz v' xs (e▸h)
  ·rename_i hge
   split
   ·rename_i sz v' xs hMi
    split
    ·rename_i he
     subst he
     obtain ⟨_,k2⟩:=hv sz v' xs hMi
     obtain ⟨rfl,l1,l2,b,cap,vs,t,l3,rfl,l5,l6,l7⟩:=k2 rfl
     obtain ⟨b',vs',t',g1,g2,g3,g4,g5⟩:=hr.arr id sz v' xs hMi
     rw [l3] at g1; injection g1 with g1; subst g1
     refine .plain (arr_slice g2 g4 g5 (fun b off h=>back_saf hb h) (fun off _=>⟨hr.lt id b hid l3,fun id' hid' hj'=>?_,hr.xdis id b hid l3 off⟩) l1 l2 l5)
     rw [backM_len hb] at hid'
     have:=hr.inj id' id b (by omega) hid hj' l3
     omega
    ·exact .any _
   ·exact .any _
 | @eptr id ver i off v h0 hid hM hv =>
  simp only [AVal.back0]
  split
  ·rename_i hlt
   have e:=back_at hb hlt hM
   exact .eptr h0 (by rw [backM_len hb]; exact hlt) (fun bx hbx=>hM bx (e▸hbx)) fun sz v' xs h=>hv sz v' xs (e▸h)
  ·exact .any _
 |any v=>exact .any v
theorem back1_rep {x:AVal} {v:Value} (h:Rep j M w x v):Rep j (backM base M) w (x.back1 base M) v:=by
 by_cases hag:∃f cs,x = .func f cs
 ·obtain ⟨f,caps,rfl⟩:=hag
  obtain ⟨vs,rfl,hl,hc⟩:=h.func_inv
  refine .func (by simpa using hl) fun i c u hi hu=>?_
  rw [List.getElem?_map,Option.map_eq_some_iff] at hi
  obtain ⟨c0,hc0,rfl⟩:=hi
  exact back0_rep hb hr (hc i c0 u hc0 hu)
 ·have e1:x.back1 base M=x.back0 base M:=by cases x<;>first|rfl|exact absurd ⟨_,_,rfl⟩ hag
  rw [e1]; exact back0_rep hb hr h
theorem back2_rep {x:AVal} {v:Value} (h:Rep j M w x v):Rep j (backM base M) w (x.back2 base M) v:=by
 by_cases hag:∃cs,x = .agg cs
 ·obtain ⟨cs,rfl⟩:=hag
  obtain ⟨vs,rfl,hl,hc⟩:=h.agg_inv
  refine .agg (by simpa using hl) fun i c u hi hu=>?_
  rw [List.getElem?_map,Option.map_eq_some_iff] at hi
  obtain ⟨c0,hc0,rfl⟩:=hi
  exact back1_rep hb hr (hc i c0 u hc0 hu)
 ·have e1:x.back2 base M=x.back1 base M:=by cases x<;>first|rfl|exact absurd ⟨_,rfl⟩ hag
  rw [e1]; exact back1_rep hb hr h
theorem backV_rep {x:AVal} {v:Value} (h:Rep j M w x v):Rep j (backM base M) w (x.backV base M) v:=by
 by_cases hag:∃cs,x = .tuple cs
 ·obtain ⟨cs,rfl⟩:=hag
  obtain ⟨vs,rfl,hl,hc⟩:=h.tuple_inv
  refine .tuple (by simpa using hl) fun i c u hi hu=>?_
  rw [List.getElem?_map,Option.map_eq_some_iff] at hi
  obtain ⟨c0,hc0,rfl⟩:=hi
  exact back2_rep hb hr (hc i c0 u hc0 hu)
 ·have e1:x.backV base M=x.back2 base M:=by cases x<;>first|rfl|exact absurd ⟨_,rfl⟩ hag
  rw [e1]; exact back2_rep hb hr h
theorem backE_rep {env:Env} {a:Act} (h:EnvRep j M w env a):EnvRep j (backM base M) w (backE base M env) a:=by
 refine ⟨fun t=>?_,h.gl.saf fun b off hs=>back_saf hb hs⟩
 have:getS (backE base M env) t=(getS env t).backV base M:=by
  clear h hr hb
  induction env with
  |nil=>rfl
  |cons p r ih =>
   obtain ⟨k,v⟩:=p
   simp only [backE,List.map_cons,getS] at *
   split
   ·rfl
   ·exact ih
 rw [this]
 exact backV_rep hb hr (h.at' t)
theorem backR1_rep {x:AVal} {v:Value} (h:Rep j M w x v):Rep j (backM base M) w (x.backR1 base M) v:=by
 cases x with
 |slice tk xs=>exact .plain (h.slice_inv.mono (back_mono hb))
 |mref id =>
  simp only [AVal.backR1]
  split
  ·rename_i hlt
   have:=back0_rep hb hr h
   simpa only [AVal.back0,hlt,if_true] using this
  ·rename_i hge
   split
   ·rename_i ks vs hM
    split
    ·rename_i hp
     simp only [Bool.and_eq_true,List.all_eq_true] at hp
     obtain ⟨b,_,hj,rfl⟩:=h.mref_inv
     obtain ⟨b',hj',es,clock,g1,g2,g3,g4,g5⟩:=hr.fix id _ hM rfl
     have:b'=b:=by rw [hj] at hj'; injection hj' with h; exact h.symm
     subst this
     have hid:id<M.length:=lt_of_some hM
     exact .fmap (hr.lt id _ hid hj) (fun i hi he=>by
      rw [backM_len hb] at hi
      have:=hr.inj i id _ (by omega) hid he hj
      omega) (hr.xdis id _ hid hj) g1 g2 g3 (fun i k e h1 h2=>(g4 i k e h1 h2).mono (back_mono hb))
      fun i u e h1 h2=>(RepD.of_plain (g5 i u e h1 h2) (hp.1 u (List.mem_of_getElem? h1))).mono (back_mono hb)
    ·exact .any _
   ·exact .any _
 |func f caps=>exact back1_rep hb hr h
 |agg cs=>exact back1_rep hb hr h
 |tuple cs=>exact back1_rep hb hr h
 |bool b=>exact back1_rep hb hr h
 |int k n=>exact back1_rep hb hr h
 |str s=>exact back1_rep hb hr h
 |ptr id off=>exact back1_rep hb hr h
 |rptr cs=>exact back1_rep hb hr h
 |iref id=>exact back1_rep hb hr h
 |aref id v sz lo hi=>exact back1_rep hb hr h
 |eptr id v i off=>exact back1_rep hb hr h
 |mfn f fs=>exact back1_rep hb hr h
 |bself id t=>exact back1_rep hb hr h
 |obuf k t x l=>exact back1_rep hb hr h
 |fmap ks vs=>exact back1_rep hb hr h
 |raw v=>exact back1_rep hb hr h
 |any=>exact .any _
theorem backR2_rep {x:AVal} {v:Value} (h:Rep j M w x v):Rep j (backM base M) w (x.backR2 base M) v:=by
 by_cases hag:∃cs,x = .agg cs
 ·obtain ⟨cs,rfl⟩:=hag
  obtain ⟨vs,rfl,hl,hc⟩:=h.agg_inv
  refine .agg (by simpa using hl) fun i c u hi hu=>?_
  rw [List.getElem?_map,Option.map_eq_some_iff] at hi
  obtain ⟨c0,hc0,rfl⟩:=hi
  exact backR1_rep hb hr (hc i c0 u hc0 hu)
 ·have e1:x.backR2 base M=x.backR1 base M:=by cases x<;>first|rfl|exact absurd ⟨_,rfl⟩ hag
  rw [e1]; exact backR1_rep hb hr h
theorem backR_rep {x:AVal} {v:Value} (h:Rep j M w x v):Rep j (backM base M) w (x.backR base M) v:=by
 by_cases hag:∃cs,x = .tuple cs
 ·obtain ⟨cs,rfl⟩:=hag
  obtain ⟨vs,rfl,hl,hc⟩:=h.tuple_inv
  refine .tuple (by simpa using hl) fun i c u hi hu=>?_
  rw [List.getElem?_map,Option.map_eq_some_iff] at hi
  obtain ⟨c0,hc0,rfl⟩:=hi
  exact backR2_rep hb hr (hc i c0 u hc0 hu)
 ·have e1:x.backR base M=x.backR2 base M:=by cases x<;>first|rfl|exact absurd ⟨_,rfl⟩ hag
  rw [e1]; exact backR2_rep hb hr h
theorem back_holds {b:Nat} {bx:ABox} (h:Holds j M w b bx):Holds j (backM base M) w b (bx.back base M):=by
 cases bx with
 |cells cs =>
  obtain ⟨vs,t,h1,h2,h3⟩:=h
  refine ⟨vs,t,h1,by simpa using h2,fun q c v hc hv=>?_⟩
  rw [List.getElem?_map,Option.map_eq_some_iff] at hc
  obtain ⟨c0,hc0,rfl⟩:=hc
  exact back1_rep hb hr (h3 q c0 v hc0 hv)
 |tick=>trivial
 |map ks vs =>
  obtain ⟨es,clock,h1,h2,h3,h4,h5⟩:=h
  refine ⟨es,clock,h1,h2,by simpa using h3,fun i k e hk he=>(h4 i k e hk he).mono (back_mono hb),fun i k e hk he=>?_⟩
  rw [List.getElem?_map,Option.map_eq_some_iff] at hk
  obtain ⟨c0,hc0,rfl⟩:=hk
  exact back2_rep hb hr (h5 i c0 e hc0 he)
 |siter s pos=>exact h
 |arr=>trivial
theorem back_rel:Rel j (backM base M) w:=by
 have ln:=backM_len hb
 refine ⟨fun i i' b hi hi'=>hr.inj i i' b (by omega) (by omega),fun i b hi=>hr.lt i b (by omega),fun i bx h hf=>?_,fun i sz n b h hj=>?_,fun i sz ver xs h=>?_,fun i b hi=>hr.xdis i b (by omega),hr.xlt⟩
 ·have hi:i<base:=by rw [←ln]; exact lt_of_some h
  rw [backM_get hi,Option.map_eq_some_iff] at h
  obtain ⟨bx0,h1,rfl⟩:=h
  obtain ⟨b,g1,g2⟩:=hr.fix i bx0 h1 (by rw [←back_fixed base M]; exact hf)
  exact ⟨b,g1,back_holds hb hr g2⟩
 ·have hi:i<base:=by rw [←ln]; exact lt_of_some h
  rw [backM_get hi,Option.map_eq_some_iff] at h
  obtain ⟨bx,h1,h2⟩:=h
  cases bx with
  |tick sz0 n0=>exact hr.tick i sz0 n0 b h1 hj
  |cells cs=>cases h2
  |map ks vs=>cases h2
  |siter s p=>cases h2
  |arr sz v xs=>cases h2
 ·have hi:i<base:=by rw [←ln]; exact lt_of_some h
  rw [backM_get hi,Option.map_eq_some_iff] at h
  obtain ⟨bx,h1,h2⟩:=h
  cases bx with
  |arr sz0 v0 xs0 =>
   injection h2 with e1 e2 e3
   subst e1; subst e2; subst e3
   obtain ⟨b,vs,t,g1,g2,g3,g4,g5⟩:=hr.arr i _ _ _ h1
   exact ⟨b,vs,t,g1,g2,g3,g4,fun q x k c hx hk=>(g5 q x k c hx hk).imp fun u hu=>⟨hu.1,hu.2.mono (back_mono hb)⟩⟩
  |cells cs=>cases h2
  |map ks vs=>cases h2
  |siter s p=>cases h2
  |tick sz n=>cases h2
omit hr in
theorem back_ext {j0:J} {M0:AMem} {w0:World} (h0:M0.length=base) (hx:Ext j0 M0 w0 j M w):Ext j0 M0 w0 j (backM base M) w where
 len:=by rw [backM_len hb]; omega
 size:=hx.size
 os:=hx.os
 tape:=hx.tape
 output:=hx.output
 X:=hx.X
 fix:=fun i bx h hf=>by
  obtain ⟨h1,bx',h2,h3⟩:=hx.fix i bx h hf
  have hi:i<base:=by rw [←h0]; exact lt_of_some h
  exact ⟨h1,_,by rw [backM_get hi,h2]; rfl,(back_tag base M bx').trans h3⟩
 tick:=fun i sz n h=>by
  obtain ⟨n',h1,h2,h3⟩:=hx.tick i sz n h
  have hi:i<base:=by rw [←h0]; exact lt_of_some h
  exact ⟨n',h1,by rw [backM_get hi,h2]; rfl,h3⟩
 arr:=fun i sz v xs h=>by
  have hi:i<base:=by rw [←h0]; exact lt_of_some h
  rcases hx.arr i sz v xs h with ⟨n',g⟩|⟨v',xs',g1,g2⟩
  ·exact .inl ⟨n',by rw [backM_get hi,g]; rfl⟩
  ·exact .inr ⟨v',xs',by rw [backM_get hi,g1]; rfl,g2⟩
 tags:=hx.tags
 saf:=fun b off h=>⟨back_saf hb (hx.saf b off h).1,(hx.saf b off h).2⟩
 old:=fun b hlt h=>⟨(hx.old b hlt h).1,fun i hi=>(hx.old b hlt h).2 i (by rw [backM_len hb] at hi; omega)⟩
end
def Post (A:Ann) (j:J) (M:AMem) (w:World) (a:Act) (o:Out):Exit→Act→World→Prop:=fun e a' w' =>
 e=exOf o.e∧a'.tmps.size=A.n∧a'.defers=a.defers∧∃j',Rel j' o.mem w'∧EnvRep j' o.mem w' o.env a'∧Ext j M w j' o.mem w'
section
variable {P:Program} {C:CallF} {A:Ann}
theorem code_sound (hmix:P.follows .mixedOrders=true) (hC:SoundC P C) {rd:Option Nat} {nd:Nat}:∀(c:Code) {ac:ACode},comp P A c=some ac→∀ {env:Env} {M:AMem} {o:Out},aexec C ac env M=some o→∀ {j:J} {w:World} {a:Act},Rel j M w→Glob j M w→EnvRep j M w env a →
  a.tmps.size=A.n→c.wpIn (Wd rd) nd P (Post A j M w a o) a w
 | .skip,ac,hc,env,M,o,h,j,w,a,hr,hG,he,hs=>by
  simp only [comp] at hc; injection hc with hc; subst hc
  simp only [aexec] at h; injection h with h; subst h
  exact wpIn_skip ⟨rfl,hs,rfl,j,hr,he,Ext.refl j M w⟩
 | .exit id,ac,hc,env,M,o,h,j,w,a,hr,hG,he,hs=>by
  simp only [comp] at hc; injection hc with hc; subst hc
  simp only [aexec] at h; injection h with h; subst h
  exact wpIn_exit ⟨rfl,hs,rfl,j,hr,he,Ext.refl j M w⟩
 | .ret,ac,hc,env,M,o,h,j,w,a,hr,hG,he,hs=>by
  simp only [comp] at hc; injection hc with hc; subst hc
  simp only [aexec] at h; injection h with h; subst h
  exact wpIn_ret ⟨rfl,hs,rfl,j,hr,he,Ext.refl j M w⟩
 | .region id ops draw,ac,hc,env,M,o,h,j,w,a,hr,hG,he,hs=>by
  simp only [comp] at hc
  cases draw with
  |true =>
   simp only [if_true] at hc
   obtain ⟨l0,hl0,hc⟩:=bind_inv hc
   obtain ⟨l,hl,hc⟩:=bind_inv hc
   injection hc with hc; subst hc
   simp only [aexec] at h
   obtain ⟨x,hx,h⟩:=obind_inv h
   injection h with h; subst h
   exact region_open (A:={ A with own:=A.own.filter (1000000 ≤ ·) }) hmix hC hl0 hl hx hr hG he hs fun a' w' j' h1 h2 h3 h4 h5=>⟨rfl,h4,h5,j',h1,h2.keep _,h3⟩
  |false =>
   simp only [Bool.false_eq_true,if_false] at hc
   obtain ⟨l,hl,hc⟩:=bind_inv hc
   injection hc with hc; subst hc
   simp only [aexec] at h
   obtain ⟨x,hx,h⟩:=obind_inv h
   injection h with h; subst h
   refine wpIn_region ?_
   rw [List.range_eq_range']
   exact ops_sound hC (grow:=[]) ops.toList 0 (by simp) hl hx hr hG he hs fun a' w' j' h1 h2 h3 h4 h5=>⟨rfl,h4,h5,j',h1,h2.keep _,h3⟩
 | .seq x y,ac,hc,env,M,o,h,j,w,a,hr,hG,he,hs=>by
  simp only [comp] at hc
  obtain ⟨ax,hx,hc⟩:=bind_inv hc
  obtain ⟨ay,hy,hc⟩:=bind_inv hc
  injection hc with hc; subst hc
  simp only [aexec] at h
  obtain ⟨o1,h1,h⟩:=obind_inv h
  refine wpIn_seq (wpIn_mono (code_sound hmix hC x hx h1 hr hG he hs) ?_)
  rintro e a1 w1 ⟨he1,hs1,hd1,j1,r1,e1,x1⟩
  rcases goOn_inv h with ⟨hn,h2⟩|⟨hn,h2⟩
  ·rw [hn] at he1
   subst he1
   refine wpIn_mono (code_sound hmix hC y hy h2 r1 (hG.mono x1) e1 hs1) ?_
   rintro e a2 w2 ⟨he2,hs2,hd2,j2,r2,e2,x2⟩
   exact ⟨he2,hs2,hd2.trans hd1,j2,r2,e2,x1.trans x2⟩
  ·subst h2
   have:exOf o.e ≠ .normal:=by cases ho:o.e<;>simp_all [exOf]
   subst he1
   cases hx:exOf o.e<;>first
    |exact absurd hx this
    |(simp only [Exit.then]; exact ⟨hx.symm,hs1,hd1,j1,r1,e1,x1⟩)
 | .cond c x y,ac,hc,env,M,o,h,j,w,a,hr,hG,he,hs=>by
  simp only [comp] at hc
  obtain ⟨cc,hcc,hc⟩:=bind_inv hc
  obtain ⟨ax,hx,hc⟩:=bind_inv hc
  obtain ⟨ay,hy,hc⟩:=bind_inv hc
  injection hc with hc; subst hc
  simp only [aexec] at h
  have h1:=opd_rep he hcc
  split at h
  ·rename_i t ht
   rw [ht] at h1
   rcases oif_inv h with ⟨rfl,h⟩|⟨rfl,h⟩
   ·exact wpIn_cond_true h1.bool_inv (code_sound hmix hC x hx h hr hG he hs)
   ·exact wpIn_cond_false h1.bool_inv (code_sound hmix hC y hy h hr hG he hs)
  ·cases h
 | .block id c,ac,hc,env,M,o,h,j,w,a,hr,hG,he,hs=>by
  simp only [comp] at hc
  obtain ⟨ax,hx,hc⟩:=bind_inv hc
  injection hc with hc; subst hc
  simp only [aexec] at h
  obtain ⟨o1,h1,h⟩:=obind_inv h
  injection h with h; subst h
  refine wpIn_block (wpIn_mono (code_sound hmix hC c hx h1 hr hG he hs) ?_)
  rintro e a1 w1 ⟨he1,hs1,hd1,j1,r1,e1,x1⟩
  subst he1
  cases ho:o1.e with
  |normal=>simp only [exOf,Exit.inBlock]; refine ⟨?_,hs1,hd1,j1,?_⟩<;>simp [outOf,ho,exOf,r1,e1,x1]
  |ret=>simp only [exOf,Exit.inBlock]; refine ⟨?_,hs1,hd1,j1,?_⟩<;>simp [outOf,ho,exOf,r1,e1,x1]
  |exit i =>
   simp only [exOf,Exit.inBlock]
   by_cases hi:i=id
   ·rw [if_pos hi]; refine ⟨?_,hs1,hd1,j1,?_⟩<;>simp [outOf,ho,exOf,hi,r1,e1,x1]
   ·rw [if_neg hi]; refine ⟨?_,hs1,hd1,j1,?_⟩<;>simp [outOf,ho,exOf,hi,r1,e1,x1]
 | .loop c,ac,hc,env,M,o,h,j,w,a,hr,hG,he,hs=>by
  simp only [comp] at hc
  obtain ⟨ax,hx,hc⟩:=bind_inv hc
  injection hc with hc; subst hc
  simp only [aexec] at h
  obtain ⟨n,hn⟩:=lim_ex h
  refine wpIn_loop_rounds n ?_
  have key:∀n env M j1 w1 a1,iter (aexec C ax) (find A.lp (firstRegion c)) n env M=some o→Rel j1 M w1→Glob j1 M w1→EnvRep j1 M w1 env a1→a1.tmps.size=A.n →
    Code.roundsIn (Wd rd) nd P c (Post A j1 M w1 a1 o) n a1 w1:=by
   intro n
   induction n with
   |zero=>intro env M j1 w1 a1 h; cases h
   |succ n ih =>
    intro env M j1 w1 a1 h r1 hG1 e1 s1
    rw [iter] at h
    obtain ⟨o1,h1,h⟩:=obind_inv h
    rw [roundsIn_succ]
    refine wpIn_mono (code_sound hmix hC c hx h1 r1 hG1 (e1.keep _) s1) ?_
    rintro e a2 w2 ⟨he2,hs2,hd2,j2,r2,e2,x2⟩
    rcases goOn_inv h with ⟨hn,h2⟩|⟨hn,h2⟩
    ·rw [hn] at he2
     subst he2
     have:=ih _ _ j2 w2 a2 h2 (back_rel x2.len r2) (hG1.mono (back_ext x2.len rfl x2)) (backE_rep x2.len r2 (e2.keep _)) hs2
     simp only [exOf,Exit.then]
     exact rounds_mono this fun e a3 w3 ⟨g1,g2,g3,j3,g4,g5,g6⟩=>⟨g1,g2,g3.trans hd2,j3,g4,g5,(back_ext x2.len rfl x2).trans g6⟩
    ·subst h2
     have:exOf o.e ≠ .normal:=by cases ho:o.e<;>simp_all [exOf]
     subst he2
     cases hx:exOf o.e<;>first
      |exact absurd hx this
      |(simp only [Exit.then]; exact ⟨hx.symm,hs2,hd2,j2,r2,e2,x2⟩)
  exact key n env M j w a hn hr hG he hs
 | .rangeFunc ..,ac,hc,env,M,o,h,j,w,a,hr,hG,he,hs=>by simp [comp] at hc
 | .scope _,ac,hc,env,M,o,h,j,w,a,hr,hG,he,hs=>by simp [comp] at hc
 | .label _,ac,hc,env,M,o,h,j,w,a,hr,hG,he,hs=>by simp [comp] at hc
 | .goto _,ac,hc,env,M,o,h,j,w,a,hr,hG,he,hs=>by simp [comp] at hc
 | .refuse _,ac,hc,env,M,o,h,j,w,a,hr,hG,he,hs=>by simp [comp] at hc
theorem res_run {env:Env} {M:AMem} {j:J} {w:World} {a:Act} (hr:Rel j M w) (he:EnvRep j M w env a):∀ {rs:List ResultVar} {ars:List ARes} {l:List AVal},cRes P rs=some ars→resAll env M ars=some l →
  ∃vs:List Value,(rs.mapM fun r=>(match r with | .tmp t=>pure (a.tmps.getD t undef) | .cell q t=>do loadVar t (←asAddr (a.tmps.getD q undef)):Sem Value)).run P w = .ok vs w∧l.length=vs.length ∧
   ∀(i:Nat) (c:AVal) (v:Value),l[i]?=some c→vs[i]?=some v→Rep j M w c v
 | [],ars,l,h1,h2=>by
  simp [cRes] at h1; subst h1
  simp [resAll] at h2; subst h2
  exact ⟨[],by simp,rfl,fun i c v h=>by simp at h⟩
 | .tmp t::rs,ars,l,h1,h2=>by
  simp only [cRes] at h1
  obtain ⟨ars',h3,h1⟩:=bind_inv h1
  injection h1 with h1; subst h1
  simp only [resAll,resOf,obind_some] at h2
  obtain ⟨l',h4,h2⟩:=obind_inv h2
  injection h2 with h2; subst h2
  obtain ⟨vs,g1,g2,g3⟩:=res_run hr he h3 h4
  refine ⟨a.tmps.getD t undef::vs,by
   rw [List.mapM_cons,Sem.run_bind]
   simp only [Sem.run_pure,Result.andThen_ok,Sem.run_bind,g1],by simp [g2],fun i c v hc hv=>?_⟩
  cases i with
  |zero=>simp only [List.getElem?_cons_zero,Option.some.injEq] at hc hv; subst hc; subst hv; exact he.at' t
  |succ i=>exact g3 i c v (by simpa using hc) (by simpa using hv)
 | .cell q t::rs,ars,l,h1,h2=>by
  simp only [cRes] at h1
  obtain ⟨g,hg,h1⟩:=bind_inv h1
  obtain ⟨n,hn,h1⟩:=bind_inv h1
  obtain ⟨ars',h3,h1⟩:=bind_inv h1
  injection h1 with h1; subst h1
  simp only [resAll] at h2
  obtain ⟨c0,hc0,h2⟩:=obind_inv h2
  obtain ⟨l',h4,h2⟩:=obind_inv h2
  injection h2 with h2; subst h2
  obtain ⟨vs,g1,g2,g3⟩:=res_run hr he h3 h4
  have hq:=he.at' q
  have hload:∃v,(do loadVar t (←asAddr (a.tmps.getD q undef)):Sem Value).run P w = .ok v w∧Rep j M w c0 v:=by
   cases g with
   |true =>
    simp only [if_true,resOf] at hc0
    split at hc0
    ·rename_i id off e
     rw [e] at hq
     obtain ⟨b,_,_,hj,hv⟩:=hq.ptr_inv
     rw [nth_eq] at hc0
     split at hc0
     ·rename_i cs hM
      split at hc0
      ·rename_i hle
       injection hc0 with hc0; subst hc0
       obtain ⟨us,t0,hw,hl,hcs,hcell⟩:=box_cell hr hM hj
       have hrun:=load_run (P:=P) (w:=w) b off n (fun k=>(us[off+k]?).getD undef) fun k hk=>by
        rw [hcell,Array.getElem?_eq_getElem (by omega)]; simp
       refine ⟨_,by simp only [hv,asAddr,Sem.run_bind,Sem.run_pure,Result.andThen_ok,loadVar,run_isAgg hg,if_true,run_size hn,hrun]; rfl,.agg (by simp; omega) fun p c u hc hu=>?_⟩
       have hp:p<n:=by have:=lt_of_some hc; simp at this; omega
       rw [List.getElem?_take_of_lt hp,List.getElem?_drop] at hc
       have hu':u=(us[off+p]?).getD undef:=by simp [hp] at hu; exact hu.symm
       have hs:us[off+p]?=some (us[off+p]'(by omega)):=Array.getElem?_eq_getElem (by omega)
       rw [hs] at hu'
       subst hu'
       exact hcs _ c _ hc hs
      ·cases hc0
     ·cases hc0
    ·cases hc0
   |false =>
    simp only [Bool.false_eq_true,if_false,resOf] at hc0
    split at hc0
    ·rename_i id off e
     rw [e] at hq
     obtain ⟨b,_,_,hj,hv⟩:=hq.ptr_inv
     rw [nth_eq] at hc0
     split at hc0
     ·rename_i cs hM
      rw [nth_eq] at hc0
      obtain ⟨us,t0,hw,hl,hcs,hcell⟩:=box_cell hr hM hj
      have hlt:=lt_of_some hc0
      have hu:us[off]?=some (us[off]'(by omega)):=Array.getElem?_eq_getElem (by omega)
      exact ⟨_,by simp [hv,asAddr,loadVar,run_isAgg hg,hcell,hu],hcs _ _ _ hc0 hu⟩
     ·cases hc0
    ·cases hc0
  obtain ⟨v0,hv0,hr0⟩:=hload
  refine ⟨v0::vs,?_,by simp [g2],fun i c v hc hv=>?_⟩
  ·rw [List.mapM_cons,Sem.run_bind,hv0]
   simp only [Result.andThen_ok,Sem.run_bind,g1,Sem.run_pure]
  ·cases i with
   |zero=>simp at hc hv; subst hc; subst hv; exact hr0
   |succ i=>exact g3 i c v (by simpa using hc) (by simpa using hv)
theorem getS_pars:∀(args:List AVal) (i t:Nat),getS (parsFrom i args) t=if i≤t then (args[t-i]?).getD .any else .any
 | [],i,t=>by simp [parsFrom,getS]
 |v::r,i,t=>by
  rw [parsFrom,getS,getS_pars r (i+1) t]
  by_cases h:i=t
  ·subst h; simp
  ·rw [if_neg h]
   by_cases h2:i≤t
   ·rw [if_pos (by omega),if_pos h2,show t-i=(t-(i+1))+1 by omega]; simp
   ·rw [if_neg (by omega),if_neg h2]
theorem one_rep {j:J} {M:AMem} {w:World}:∀ {l:List AVal} {us:List Value},l.length=us.length→(∀(i:Nat) (c:AVal) (v:Value),l[i]?=some c→us[i]?=some v→Rep j M w c v) →
  Rep j M w (one l) (if h:us.toArray.size=1 then us.toArray[0] else .tuple us.toArray)
 | [c0],[v0],_,h=>by simpa [one] using h 0 c0 v0 rfl rfl
 | [],[],_,_=>by simpa [one] using (Rep.tuple (j:=j) (M:=M) (w:=w) (cs:=[]) (vs := #[]) rfl fun i c v h=>by simp at h)
 |c0::c1::r,v0::v1::s,hl,h=>by
  have:¬(v0::v1::s).toArray.size=1:=by simp
  rw [dif_neg this]
  exact .tuple (by simpa using hl) fun i c v h1 h2=>h i c v h1 (by simpa using h2)
 | [],_::_,hl,_=>by simp at hl
 | [_],[],hl,_=>by simp at hl
 | [_],_::_::_,hl,_=>by simp at hl
 |_::_::_,[],hl,_=>by simp at hl
 |_::_::_,[_],hl,_=>by simp at hl
theorem fn_sound (hmix:P.follows .mixedOrders=true) (hC:SoundC P C) {f:Nat} {fn:AFn} {A:Ann} {func:Func} (hf:P.funcs[f]?=some func) (hc:compFn P A func=some fn) {args:List AVal} {M:AMem} {x:AVal×AMem}
  (hl:args.length=fn.nparams) (h:obind (aexec C fn.body (parsFrom 0 args) M) (finish fn.results M.length)=some x):enterable P f=true∧SoundCall P f args M x:=by
 unfold compFn at hc
 split at hc
 ·cases hc
 ·rename_i c hbody
  split at hc
  ·rename_i hcond
   obtain ⟨hname,hn,hle⟩:=hcond
   obtain ⟨b,hb,hc⟩:=bind_inv hc
   obtain ⟨rs,hrs,hc⟩:=bind_inv hc
   injection hc with hc; subst hc
   refine ⟨by simp [enterable,hf,hbody,hname],fun j w vs hr hG hlen hv=>?_⟩
   obtain ⟨o,ho,hfin⟩:=obind_inv h
   simp only at hl
   refine calls_of_wp hf hbody ?_
   have hsz:(vs++Array.replicate (func.ntmps-vs.size) undef).size=A.n:=by simp; omega
   have he:EnvRep j M w (parsFrom 0 args) { tmps:=vs++Array.replicate (func.ntmps-vs.size) undef,defers:=[] }:=by
    refine ⟨fun t=>?_,hG⟩
    rw [getS_pars,if_pos (Nat.zero_le _),Nat.sub_zero]
    rcases Nat.lt_or_ge t args.length with ht|ht
    ·have h1:=List.getElem?_eq_getElem ht
     have hlt:t<vs.size:=by omega
     have h2:=Array.getElem?_eq_getElem hlt
     rw [h1]
     have h3:=hv t _ _ h1 h2
     have:(vs++Array.replicate (func.ntmps-vs.size) undef).getD t undef=vs[t]:=by
      simp [Array.getD_eq_getD_getElem?,Array.getElem?_append_left hlt,h2]
     rw [this]
     exact h3
    ·rw [List.getElem?_eq_none ht]; exact .any _
   refine wp_mono (wpIn_wide.1 (code_sound (rd:=none) (nd:=0) hmix hC c hb ho hr hG he hsz)) ?_
   rintro e a' w' ⟨he1,hs1,hd1,j1,r1,e1,x1⟩
   have hno:∀i,o.e ≠ .exit i:=by
    intro i hi
    simp [finish,hi] at hfin
   have hfin':obind (resAll o.env o.mem rs) (fun l=>some ((one l).backR M.length o.mem,backM M.length o.mem))=some x:=by
    unfold finish at hfin
    split at hfin
    ·rename_i i hi; exact absurd hi (hno i)
    ·exact hfin
   obtain ⟨l,hl',hfin'⟩:=obind_inv hfin'
   injection hfin' with hfin'; subst hfin'
   obtain ⟨us,u1,u2,u3⟩:=res_run (P:=P) r1 e1 hrs hl'
   have hbase:M.length≤o.mem.length:=x1.len
   have hres:(results func a'.tmps).run P w' = .ok (if h:us.toArray.size=1 then us.toArray[0] else .tuple us.toArray) w':=by
    unfold results
    rw [Array.mapM_eq_mapM_toList,Sem.run_bind,Sem.run_map]
    refine Eq.trans (congrArg (fun r:Result (List Value)=>Result.andThen (r.andThen fun a w' => .ok a.toArray w') _) (Eq.trans ?_ u1)) rfl
    rfl
   have hone:Rep j1 o.mem w' (one l) (if h:us.toArray.size=1 then us.toArray[0] else .tuple us.toArray):=by
    exact one_rep u2 u3
   have hfinal:∃v,(results func a'.tmps).run P w' = .ok v w'∧∃v' j',Ending.returned v = .returned v'∧Rel j' (backM M.length o.mem) w'∧Ext j M w j' (backM M.length o.mem) w'∧Rep j' (backM M.length o.mem) w' ((one l).backR M.length o.mem) v' :=
    ⟨_,hres,_,j1,rfl,back_rel hbase r1,back_ext hbase rfl x1,backR_rep hbase r1 hone⟩
   cases hoe:o.e with
   |exit i=>exact absurd hoe (hno i)
   |normal=>rw [hoe] at he1; subst he1; exact ⟨hd1,hfinal⟩
   |ret=>rw [hoe] at he1; subst he1; exact ⟨hd1,hfinal⟩
  ·cases hc
structure TabOk (P:Program) (T:Tab):Prop where
 code:∀f fn,T.code f=some fn→∃A func,P.funcs[f]?=some func∧compFn P A func=some fn
 prim:∀f g,T.prim f=some g→∀args M x,g args M=some x→enterable P f=true∧SoundCall P f args M x
theorem acallN_sound (hmix:P.follows .mixedOrders=true) {T:Tab} (hT:TabOk P T):∀n,SoundC P (acallN T n)
 |0,f,args,M,x,h=>by
  unfold acallN at h
  split at h
  ·rename_i g hg; exact hT.prim f g hg args M x h
  ·cases h
 |n+1,f,args,M,x,h=>by
  rw [acallN] at h
  split at h
  ·rename_i g hg; exact hT.prim f g hg args M x h
  ·split at h
   ·cases h
   ·rename_i fn hfn
    split at h
    ·rename_i hl
     obtain ⟨A,func,h1,h2⟩:=hT.code f fn hfn
     exact fn_sound hmix (acallN_sound hmix hT n) h1 h2 hl h
    ·cases h
theorem acall_sound (hmix:P.follows .mixedOrders=true) {T:Tab} (hT:TabOk P T):SoundC P (acall T):=fun f args M x h=>by
 obtain ⟨n,hn⟩:=lim_ex h
 exact acallN_sound hmix hT n f args M x hn
end
end Go.Abs
namespace Go.Abs
open Go Go.RowKit
variable [Globs]
section
variable {j:J} {M:AMem} {w w':World}
theorem Ext.tickDrop {k sz n n':Nat} (hM:M[k]?=some (.tick sz n)) (hn:n<n') (hr:Rel j M w) (q:Quiet w w') (hb:∀b,j k≠some b→b<w.heap.size→w'.heap[b]?=w.heap[b]?)
  (hg:∀b vs t fr,j k=some b→w.heap[b]?=some (.cells vs t fr)→∃fr',w'.heap[b]?=some (.cells vs t fr')):Ext j M w (upd j k none) (M.set k (.tick sz n')) w' where
 len:=by simp
 size:=q.size
 os:=q.os
 tape:=q.tape
 output:=q.output
 X:=rfl
 fix:=fun i b0 h hf=>by
  have e:k≠i:=by rintro rfl; rw [hM] at h; injection h with h; subst h; cases hf
  exact ⟨by simp [upd,Ne.symm e],b0,by rw [set_other e]; exact h,rfl⟩
 tick:=fun i sz0 n0 h=>by
  by_cases e:k=i
  ·subst e
   rw [hM] at h; injection h with h; injection h with h1 h2
   subst h1; subst h2
   exact ⟨n',by omega,set_same (lt_of_some hM),fun he=>by omega⟩
  ·refine ⟨n0,Nat.le_refl _,by rw [set_other e]; exact h,fun _=>⟨by simp [upd,Ne.symm e],fun b vs t hb' hv=>⟨vs,?_,rfl⟩⟩⟩
   refine (hb b (fun hk=>e (hr.inj _ _ _ (lt_of_some hM) (lt_of_some h) hk hb')) (lt_of_block hv)).trans hv
 arr:=fun i sz0 v0 xs0 h=>by
  have e:k≠i:=by rintro rfl; rw [hM] at h; cases h
  refine .inr ⟨v0,xs0,by rw [set_other e]; exact h,Nat.le_refl _,fun _=>⟨by simp [upd,Ne.symm e],rfl,fun b vs t hb' hv=>⟨vs,?_,rfl⟩⟩⟩
  refine (hb b (fun hk=>e (hr.inj _ _ _ (lt_of_some hM) (lt_of_some h) hk hb')) (lt_of_block hv)).trans hv
 tags:=fun b vs t fr h=>by
  by_cases hk:j k=some b
  ·obtain ⟨fr',h'⟩:=hg b vs t fr hk h
   exact ⟨vs,fr',h',rfl⟩
  ·exact ⟨vs,fr,(hb b hk (lt_of_block h)).trans h,rfl⟩
 saf:=fun b off h=>by
  refine ⟨⟨Nat.lt_of_lt_of_le h.1 q.size,fun i hi hji=>?_,h.3⟩,?_⟩
  ·have e:k≠i:=by rintro rfl; simp [upd] at hji
   rw [set_other e]
   exact h.2 i (by simpa using hi) (by simpa [upd,Ne.symm e] using hji)
  ·by_cases hk:j k=some b
   ·obtain ⟨vs,t,h1⟩:=hr.tick _ _ _ _ hM hk
    obtain ⟨fr',h2⟩:=hg b vs t _ hk h1
    simp [World.cell?,h1,h2]
   ·exact World.cell?_of_block (w:=w) (hb b hk h.1)
 old:=fun b hlt h=>by
  refine ⟨hb b (h k (lt_of_some hM)) hlt,fun i hi hji=>?_⟩
  by_cases e:i=k
  ·simp [upd,e] at hji
  ·exact h i (by simpa using hi) (by simpa [upd,e] using hji)
theorem Rel.tickDrop {k sz n n':Nat} (hM:M[k]?=some (.tick sz n)) (hn:n<n') (hr:Rel j M w) (q:Quiet w w') (hb:∀b,j k≠some b→b<w.heap.size→w'.heap[b]?=w.heap[b]?)
  (hg:∀b vs t fr,j k=some b→w.heap[b]?=some (.cells vs t fr)→∃fr',w'.heap[b]?=some (.cells vs t fr')):Rel (upd j k none) (M.set k (.tick sz n')) w':=by
 have ext:Ext j M w (upd j k none) (M.set k (.tick sz n')) w':=Ext.tickDrop hM hn hr q hb hg
 have ne:∀i b,upd j k none i=some b→i≠k∧j i=some b:=fun i b h=>by
  by_cases e:i=k
  ·simp [upd,e] at h
  ·exact ⟨e,by simpa [upd,e] using h⟩
 have keep:∀i b,i<M.length→i≠k→j i=some b→w'.heap[b]?=w.heap[b]?:=fun i b hi e h =>
  hb b (fun hk=>e (hr.inj _ _ _ hi (lt_of_some hM) h hk)) (hr.lt i b hi h)
 refine ⟨fun i i' b hi hi' h h'=>hr.inj i i' b (by simpa using hi) (by simpa using hi') (ne _ _ h).2 (ne _ _ h').2,fun i b hi h=>Nat.lt_of_lt_of_le (hr.lt i b (by simpa using hi) (ne _ _ h).2) q.size,fun i bx h hf=>?_,fun i sz0 n0 b h hji=>?_,fun i sz0 v0 xs0 h=>?_,fun i b hi h=>hr.xdis i b (by simpa using hi) (ne _ _ h).2,fun b off h=>Nat.lt_of_lt_of_le (hr.xlt b off h) q.size⟩
 ·have e:k≠i:=by rintro rfl; rw [set_same (lt_of_some hM)] at h; injection h with h; subst h; cases hf
  rw [set_other e] at h
  obtain ⟨b,h1,h2⟩:=hr.fix i bx h hf
  exact ⟨b,by simpa [upd,Ne.symm e] using h1,h2.mono ext (keep i b (lt_of_some h) (Ne.symm e) h1)⟩
 ·obtain ⟨e,h1⟩:=ne _ _ hji
  rw [set_other (Ne.symm e)] at h
  obtain ⟨vs,t,h2⟩:=hr.tick i sz0 n0 b h h1
  exact ⟨vs,t,(keep i b (lt_of_some h) e h1).trans h2⟩
 ·have e:k≠i:=by rintro rfl; rw [set_same (lt_of_some hM)] at h; cases h
  rw [set_other e] at h
  exact arr_keep hr ext h (by simp [upd,Ne.symm e]) fun b h1=>keep i b (lt_of_some h) (Ne.symm e) h1
theorem Ext.arrNew {k b' sz ver ver':Nat} {xs xs':List AVal} (hM:M[k]?=some (.arr sz ver xs)) (q:Quiet w w') (hb:∀b,b<w.heap.size→w'.heap[b]?=w.heap[b]?) (hf:w.heap.size≤b') (hn:ver<ver') :
  Ext j M w (upd j k (some b')) (M.set k (.arr sz ver' xs')) w' where
 len:=by simp
 size:=q.size
 os:=q.os
 tape:=q.tape
 output:=q.output
 X:=rfl
 fix:=fun i b0 h hf=>by
  have e:k≠i:=by rintro rfl; rw [hM] at h; injection h with h; subst h; cases hf
  exact ⟨by simp [upd,Ne.symm e],b0,by rw [set_other e]; exact h,rfl⟩
 tick:=fun i sz0 n0 h=>by
  have e:k≠i:=by rintro rfl; rw [hM] at h; cases h
  exact ⟨n0,Nat.le_refl _,by rw [set_other e]; exact h,fun _=>⟨by simp [upd,Ne.symm e],fun b vs0 t0 _ hv=>⟨vs0,(hb b (lt_of_block hv)).trans hv,rfl⟩⟩⟩
 arr:=fun i sz0 v0 xs0 h=>by
  by_cases e:k=i
  ·subst e
   rw [hM] at h
   injection h with h; injection h with h1 h2 h3
   subst h1; subst h2; subst h3
   exact .inr ⟨ver',xs',set_same (lt_of_some hM),by omega,fun he=>by omega⟩
  ·exact .inr ⟨v0,xs0,by rw [set_other e]; exact h,Nat.le_refl _,fun _=>⟨by simp [upd,Ne.symm e],rfl,fun b vs0 t0 _ hv=>⟨vs0,(hb b (lt_of_block hv)).trans hv,rfl⟩⟩⟩
 tags:=fun b0 vs0 t0 fr0 h=>⟨vs0,fr0,(hb b0 (lt_of_block h)).trans h,rfl⟩
 saf:=fun b0 off h=>by
  refine ⟨⟨Nat.lt_of_lt_of_le h.1 q.size,fun i hi hji=>?_,h.3⟩,World.cell?_of_block (w:=w) (hb b0 h.1)⟩
  have e:k≠i:=by
   rintro rfl
   have:b'=b0:=by simpa [upd] using hji
   have:=h.1
   omega
  rw [set_other e]
  exact h.2 i (by simpa using hi) (by simpa [upd,Ne.symm e] using hji)
 old:=fun b0 hlt h=>by
  refine ⟨hb b0 hlt,fun i hi hji=>?_⟩
  by_cases e:i=k
  ·have:b'=b0:=by simpa [upd,e] using hji
   omega
  ·exact h i (by simpa using hi) (by simpa [upd,e] using hji)
theorem Rel.arrNew {k b' sz ver ver':Nat} {xs xs':List AVal} (hM:M[k]?=some (.arr sz ver xs)) (hr:Rel j M w) (q:Quiet w w') (hb:∀b,b<w.heap.size→w'.heap[b]?=w.heap[b]?)
  (hf:w.heap.size≤b') (hlt:b'<w'.heap.size) (hn:ver<ver') (hh:∀j' M',Ext j M w j' M' w'→ArrAt j' M' w' b' sz xs'):Rel (upd j k (some b')) (M.set k (.arr sz ver' xs')) w':=by
 have ext:Ext j M w (upd j k (some b')) (M.set k (.arr sz ver' xs')) w':=Ext.arrNew hM q hb hf hn
 refine ⟨fun i i' b0 hi hi' h h'=>?_,fun i b0 hi h=>?_,fun i bx0 h hf=>?_,fun i sz0 n0 b0 h hji=>?_,fun i sz0 v0 xs0 h=>?_,fun i b0 hi h off hx=>?_,fun b0 off h=>Nat.lt_of_lt_of_le (hr.xlt b0 off h) q.size⟩
 ·simp only [List.length_set] at hi hi'
  by_cases e:i=k<;>by_cases e':i'=k
  ·omega
  ·have h1:b'=b0:=by simpa [upd,e] using h
   have:=hr.lt i' b0 hi' (by simpa [upd,e'] using h')
   omega
  ·have h1:b'=b0:=by simpa [upd,e'] using h'
   have:=hr.lt i b0 hi (by simpa [upd,e] using h)
   omega
  ·exact hr.inj i i' b0 hi hi' (by simpa [upd,e] using h) (by simpa [upd,e'] using h')
 ·simp only [List.length_set] at hi
  by_cases e:i=k
  ·have h1:b'=b0:=by simpa [upd,e] using h
   subst h1
   exact hlt
  ·exact Nat.lt_of_lt_of_le (hr.lt i b0 hi (by simpa [upd,e] using h)) q.size
 ·have e:k≠i:=by rintro rfl; rw [set_same (lt_of_some hM)] at h; injection h with h; subst h; cases hf
  rw [set_other e] at h
  obtain ⟨b0,h1,h2⟩:=hr.fix i bx0 h hf
  exact ⟨b0,by simpa [upd,Ne.symm e] using h1,h2.mono ext (hb b0 (hr.lt i b0 (lt_of_some h) h1))⟩
 ·have e:k≠i:=by rintro rfl; rw [set_same (lt_of_some hM)] at h; cases h
  rw [set_other e] at h
  obtain ⟨vs0,t0,h1⟩:=hr.tick i sz0 n0 b0 h (by simpa [upd,Ne.symm e] using hji)
  exact ⟨vs0,t0,(hb b0 (lt_of_block h1)).trans h1⟩
 ·by_cases e:k=i
  ·subst e
   rw [set_same (lt_of_some hM)] at h
   injection h with h; injection h with e1 e2 e3
   subst e1; subst e2; subst e3
   obtain ⟨vs,t,g⟩:=hh _ _ ext
   exact ⟨b',vs,t,by simp [upd],g⟩
  ·rw [set_other e] at h
   exact arr_keep hr ext h (by simp [upd,Ne.symm e]) fun b0 h1=>hb b0 (hr.lt i b0 (lt_of_some h) h1)
 ·by_cases e:i=k
  ·have h1:b'=b0:=by simpa [upd,e] using h
   have h2:=hr.xlt b0 off hx
   omega
  ·exact hr.xdis i b0 (by simpa using hi) (by simpa [upd,e] using h) off hx
theorem slice_row {saf:Nat→Nat→Prop} {xs:List AVal} {v:Value} {size:Nat} (hx:RepP w saf (.slice .sh xs) v) (hw:wid xs size):∃A cap,v = .slice A xs.length cap∧xs.length≤cap ∧
  (xs=[]∨∃b off,A=some ⟨b,off,none⟩∧∃us:List Value,RL w saf (flatC xs) us∧us.length=xs.length*size∧(∀u,u∈us→u.oneCell'=true)∧∀p u,us[p]?=some u→w.cell? ⟨b,off+p,none⟩=some u∧saf b (off+p)):=by
 cases hx with
 |slice _ A len cap b off sz vs hl hc ha hz hs hr =>
  subst hl
  refine ⟨A,cap,rfl,hc,?_⟩
  rcases List.eq_nil_or_concat xs with h0|⟨_,_,h0⟩
  ·exact .inl h0
  ·have hne:xs≠[]:=by rw [h0]; simp
   have hsz:sz=size:=by
    obtain ⟨x,r,hxr⟩:=List.exists_cons_of_ne_nil hne
    have hm:x∈xs:=by rw [hxr]; exact List.mem_cons_self ..
    rw [←hz x hm,hw x hm]
   subst hsz
   have hlen:((List.range (xs.length*sz)).map vs).length=xs.length*sz:=by simp
   have hrl:RL w saf (flatC xs) ((List.range (xs.length*sz)).map vs):=by
    refine ⟨by rw [flatC_length hw,hlen],fun p c v hc hv=>?_⟩
    obtain ⟨q,x,k,h1,h2,rfl⟩:=flatC_at hw hc
    have hlt:q*sz+k<xs.length*sz:=by rw [←flatC_length hw]; exact lt_of_some hc
    rw [List.getElem?_map,List.getElem?_range hlt] at hv
    simp only [Option.map_some] at hv
    injection hv with hv; subst hv
    exact hr q x k c h1 h2
   refine .inr ⟨b,off,ha hne,_,hrl,hlen,fun u hu=>?_,fun p u hu=>?_⟩
   ·obtain ⟨p,hp⟩:=List.getElem?_of_mem hu
    have hp':p<(flatC xs).length:=by rw [hrl.1]; exact lt_of_some hp
    exact RepP.one (hrl.2 p _ u (List.getElem?_eq_getElem hp') hp)
   ·have hp':p<(flatC xs).length:=by rw [hrl.1]; exact lt_of_some hu
    obtain ⟨q,x,k,h1,h2,rfl⟩:=flatC_at hw (List.getElem?_eq_getElem hp')
    have hlt:q*sz+k<xs.length*sz:=by rw [←flatC_length hw]; exact hp'
    rw [List.getElem?_map,List.getElem?_range hlt] at hu
    simp only [Option.map_some] at hu
    injection hu with hu; subst hu
    exact hs q x k _ h1 h2
theorem setCells_eq (b:Nat):∀(l:List Value) (o:Nat) (w:World),w.setCells b o l=setL w b o l
 | [],_,_=>rfl
 |v::r,o,w=>by rw [World.setCells,setL,setCells_eq b r]
end
noncomputable def pClone (sz bytes:Nat):List AVal→AMem→Option (AVal×AMem)
 | [.slice _ xs],M=>match xs with
  | []=>some (.slice .c0 [],M)
  |x::r=>owhen (wid (x::r) sz∧roomOk (x::r).length bytes) (some (.aref M.length 0 sz 0 (x::r).length,M++[.arr sz 0 (x::r)]))
 |_,_=>none
noncomputable def pDelete (sz:Nat):List AVal→AMem→Option (AVal×AMem)
 | [.aref id ver sz' lo hi,.int .i64 i,.int .i64 i'],M=>match nth M id with
  |some (.arr sz0 v xs)=>owhen (v=ver∧sz'=sz∧lo=0∧hi=xs.length∧0≤i∧i.toNat<xs.length∧i'=i+1∧xs.length≤2 ^ 44)
    (some (.aref id (ver+1) sz 0 (xs.length-1),setN M id (.arr sz0 (ver+1) (xs.take i.toNat++xs.drop (i.toNat+1)))))
  |_=>none
 |_,_=>none
noncomputable def pInsert (sz bytes:Nat):List AVal→AMem→Option (AVal×AMem)
 | [.aref id ver sz' lo hi,.int .i64 i,.slice _ [e]],M=>match nth M id with
  |some (.arr sz0 v xs)=>owhen (v=ver∧sz'=sz∧lo=0∧hi=xs.length∧0≤i∧i.toNat≤xs.length∧e.cells.length=sz∧roomOk (xs.length+1) bytes)
    (some (.aref id (ver+1) sz 0 (xs.length+1),setN M id (.arr sz0 (ver+1) (xs.take i.toNat++e::xs.drop i.toNat))))
  |_=>none
 | [.slice .c0 [],.int .i64 i,.slice _ [e]],M=>owhen (i=0∧e.cells.length=sz) (some (.aref M.length 0 sz 0 1,M++[.arr sz 0 [e]]))
 |_,_=>none
section
variable {P:Program} {f:Nat} {sz bytes:Nat} {E:TypeId}
theorem two_args {α:Type} {vs:Array α} {p q r:AVal} (h:[p,q,r].length=vs.size):∃a b c,vs = #[a,b,c]:=by
 obtain ⟨l⟩:=vs
 match l,h with
 | [a,b,c],_=>exact ⟨a,b,c,rfl⟩
theorem one_arg {α:Type} {vs:Array α} {p:AVal} (h:[p].length=vs.size):∃a,vs = #[a]:=by
 obtain ⟨l⟩:=vs
 match l,h with
 | [a],_=>exact ⟨a,rfl⟩
theorem Rep.slice_sh {j:J} {M:AMem} {w:World} {tk:Tk} {xs:List AVal} {v:Value} (h:Rep j M w (.slice tk xs) v):RepP w (Saf j M w) (.slice .sh xs) v:=h.slice_inv
theorem clone_sound (hsz:0<sz) (hby:bytes*8≤2 ^ 20∧0<bytes)
  (hC:∀(b off n c:Nat) (news:List Value) (w:World),news.length=n*sz→n≤maxLen→n*bytes≤140737488355328→(∀j u,news[j]?=some u→w.cell? ⟨b,off+j,none⟩=some u)→(∀u∈news,u.oneCell'=true) →
   Calls P f #[.slice (some ⟨b,off,none⟩) n c] w fun e w'=>∃v',e = .returned v'∧w'.ownsRow w.heap.size E sz v' n news∧v' ≠ .slice none 0 0∧Below w.heap.size w w')
  (h0:∀(A:Option Addr) (c:Nat) (w:World),Calls P f #[.slice A 0 c] w fun e w'=>(∃B,e = .returned (.slice B 0 0))∧Below w.heap.size w w')
  {args:List AVal} {M:AMem} {x:AVal×AMem} (h:pClone sz bytes args M=some x):SoundCall P f args M x:=by
 unfold pClone at h
 split at h
 ·intro j w vs hr hG hl hv
  obtain ⟨u,rfl⟩:=one_arg hl
  have h1:=(hv 0 _ u rfl rfl).slice_sh
  split at h
  ·injection h with h; subst h
   obtain ⟨A,cap,rfl,_,_⟩:=slice_row (size:=sz) h1 (fun y hy=>by cases hy)
   refine (h0 A cap w).mono ?_
   rintro e w' ⟨⟨B,rfl⟩,hb⟩
   exact ⟨_,j,rfl,hr.grow hb.size hb.os hb.tape hb.output hb.block,Ext.grow hb.size hb.os hb.tape hb.output hb.block,.c0 _⟩
  ·rename_i y r
   obtain ⟨⟨hw,hroom⟩,h⟩:=owhen_inv h
   injection h with h; subst h
   obtain ⟨A,cap,rfl,hcap,h2⟩:=slice_row h1 hw
   obtain ⟨b,off,rfl,us,hrl,hul,hone,hcell⟩:=h2.resolve_left (by simp)
   unfold roomOk at hroom
   have hle:(y::r).length≤2 ^ 44:=Nat.le_trans (Nat.le_mul_of_pos_right _ hby.2) hroom
   refine (hC b off (y::r).length cap us w hul (by unfold maxLen; omega) (by omega) (fun p u hp=>(hcell p u hp).1) hone).mono ?_
   rintro e w' ⟨v',rfl,⟨_,hown⟩,hnn,hb⟩
   obtain ⟨g,cap',cur,rfl,hg,hg',hn1,_,hcs,htk⟩:=hown.resolve_left (fun h=>hnn h.1)
   have q:Quiet w w':=⟨hb.size,hb.os,hb.tape,hb.output⟩
   have hob:∀b,some g=some b→w.heap.size≤b∧b<w'.heap.size:=fun b h=>by injection h with h; subst h; exact ⟨hg,lt_of_block hg'⟩
   have hcl:∀p,p<us.length→cur[p]?=us[p]?:=fun p hp=>by
    rw [←htk,List.getElem?_take_of_lt (by rw [←hul]; exact hp)]; simp
   have ext:Ext j M w (upd j M.length (some g)) (M++[.arr sz 0 (y::r)]) w':=Ext.push (fun b h=>(hob b h).1) q hb.block
   refine ⟨_,upd j M.length (some g),rfl,hr.push hob q hb.block (fun h=>by cases h) (fun sz n b h _=>by cases h) (fun sz0 v0 xs0 he=>?_),ext,?_⟩
   ·injection he with e1 e2 e3
    subst e1; subst e3
    have hat:∀j' M',Ext j M w j' M' w'→ArrAt j' M' w' g sz (y::r):=fun j' M' hx=>arr_of_row hg' hw (hrl.mono hx.saf) hcl
    refine ⟨g,cur,E,rfl,hg',by rw [hcs]; exact Nat.mul_le_mul_right _ hn1,hw,fun j' M' hx q x k c hx' hk=>?_⟩
    obtain ⟨vs,t,a1,a2,a3,a4⟩:=hat j' M' hx
    rw [hg'] at a1; injection a1 with a1; injection a1 with a1 a1'
    subst a1
    exact a4 q x k c hx' hk
   ·refine .aref ⟨g,0,cap',rfl,by omega⟩ (by simp) (fun bx hbx=>by rw [app_new] at hbx; injection hbx with hbx; subst hbx; rfl) fun sz' v' xs hx=>?_
    rw [app_new] at hx; injection hx with hx; injection hx with e1 e2 e3
    subst e1; subst e2; subst e3
    exact ⟨Nat.le_refl _,fun _=>⟨rfl,Nat.zero_le _,Nat.le_refl _,g,cap',cur,E,by simp [upd],by simp,by omega,hg',by rw [Nat.zero_add]; omega⟩⟩
 ·cases h
end
def InsPost (sz:Nat) (w:World) (b:Nat) (row:Array Value) (t:TypeId) (n i:Nat) (cs vs:List Value) (e:Ending) (w':World):Prop :=
 ∃b' cap' row' t',e = .returned (.slice (some ⟨b',0,none⟩) (n+1) cap')∧n+1≤cap'∧w'.heap[b']?=some (.cells row' t' (0,0))∧cap'*sz≤row'.size ∧
  (∀p,p<(n+1)*sz→row'[p]?=(cs.take (i*sz)++(vs++cs.drop (i*sz)))[p]?)∧Quiet w w' ∧
  ((b'=b∧t'=t∧row'.size=row.size∧∀b0,b0≠b→b0<w.heap.size→w'.heap[b0]?=w.heap[b0]?)∨(w.heap.size≤b'∧∀b0,b0<w.heap.size→w'.heap[b0]?=w.heap[b0]?))
section
variable {sz:Nat} {w:World} {b n c i:Nat} {row:Array Value} {t:TypeId} {cs vs:List Value} {e:Ending} {w':World}
theorem alloc_heap (w:World) (o:Obj):(w.alloc o).heap=w.heap.push o:=rfl
theorem drew_heap (w:World):w.drew.heap=w.heap:=rfl
theorem three_parts {A B C:List Value} {p:Nat}:(A++(B++C))[p]?=if p<A.length then A[p]? else if p<A.length+B.length then B[p-A.length]? else C[p-A.length-B.length]?:=by
 split
 ·rw [List.getElem?_append_left (by assumption)]
 ·rw [List.getElem?_append_right (by omega)]
  split
  ·rw [List.getElem?_append_left (by omega)]
  ·rw [List.getElem?_append_right (by omega)]
theorem ins_shift (hi:i<n) (hroom:n+1≤c) (hcl:cs.length=n*sz) (hvl:vs.length=sz) (hw:w.heap[b]?=some (.cells row t (0,0))) (hrow:c*sz≤row.size) (hat:∀(p:Nat) (v:Value),cs[p]?=some v→row[p]?=some v)
  (he:e = .returned (.slice (some ⟨b,0,none⟩) (n+1) c)) (hw':w'=(w.drew.setCells b ((i+1)*sz) (cs.drop (i*sz))).setCells b (i*sz) vs):InsPost sz w b row t n i cs vs e w':=by
 have a1:(i+1)*sz=i*sz+sz:=by rw [Nat.add_mul,Nat.one_mul]
 have a2:(n+1)*sz=n*sz+sz:=by rw [Nat.add_mul,Nat.one_mul]
 have a3:i*sz+sz≤n*sz:=by rw [←a1]; exact Nat.mul_le_mul_right _ hi
 have a4:(n+1)*sz≤row.size:=Nat.le_trans (Nat.mul_le_mul_right _ hroom) hrow
 have hdl:(cs.drop (i*sz)).length=n*sz-i*sz:=by rw [List.length_drop,hcl]
 rw [setCells_eq,setCells_eq] at hw'
 obtain ⟨s1,s2,s3,s4,s5,r1,s6,s7,s8,s9⟩:=setL_spec (t:=t) (cs.drop (i*sz)) w.drew ((i+1)*sz) row hw (by omega)
 obtain ⟨q1,q2,q3,q4,q5,r2,q6,q7,q8,q9⟩:=setL_spec (t:=t) vs _ (i*sz) r1 s6 (by omega)
 rw [←hw'] at q1 q2 q3 q4 q5 q6
 have htk:(cs.take (i*sz)).length=i*sz:=by rw [List.length_take,hcl]; omega
 refine ⟨b,c,r2,t,he,hroom,q6,by rw [q7,s7]; exact hrow,fun p hp=>?_,⟨by rw [q1,s1]; exact Nat.le_refl _,q2.trans s2,q3.trans s3,q4.trans s4⟩,.inl ⟨rfl,rfl,q7.trans s7,fun b0 h0 _=>(q5 b0 h0).trans (s5 b0 h0)⟩⟩
 rw [three_parts,htk,hvl]
 split
 ·rename_i c1
  rw [q8 p (.inl c1),s8 p (.inl (by omega)),List.getElem?_take_of_lt c1]
  have hp1:p<cs.length:=by omega
  rw [hat p _ (List.getElem?_eq_getElem hp1),List.getElem?_eq_getElem hp1]
 ·rename_i c1
  split
  ·have:=q9 (p-i*sz) (by omega)
   rwa [Nat.add_sub_cancel' (by omega)] at this
  ·rw [q8 p (.inr (by omega))]
   have:=s9 (p-(i+1)*sz) (by omega)
   rw [Nat.add_sub_cancel' (by omega)] at this
   rw [this]; congr 1; omega
theorem ins_room (hroom:n+1≤c) (hcl:cs.length=n*sz) (hvl:vs.length=sz) (hw:w.heap[b]?=some (.cells row t (0,0))) (hrow:c*sz≤row.size) (hat:∀(p:Nat) (v:Value),cs[p]?=some v→row[p]?=some v)
  (he:e = .returned (.slice (some ⟨b,0,none⟩) (n+1) c)) (hw':w'=w.setCells b (n*sz) vs):InsPost sz w b row t n n cs vs e w':=by
 have a2:(n+1)*sz=n*sz+sz:=by rw [Nat.add_mul,Nat.one_mul]
 have a4:(n+1)*sz≤row.size:=Nat.le_trans (Nat.mul_le_mul_right _ hroom) hrow
 rw [setCells_eq] at hw'
 obtain ⟨q1,q2,q3,q4,q5,r2,q6,q7,q8,q9⟩:=setL_spec (t:=t) vs w (n*sz) row hw (by omega)
 rw [←hw'] at q1 q2 q3 q4 q5 q6
 refine ⟨b,c,r2,t,he,hroom,q6,by rw [q7]; exact hrow,fun p hp=>?_,⟨by rw [q1]; exact Nat.le_refl _,q2,q3,q4⟩,.inl ⟨rfl,rfl,q7,fun b0 h0 _=>q5 b0 h0⟩⟩
 rw [←hcl,List.take_length,List.drop_length,List.append_nil]
 rcases Nat.lt_or_ge p cs.length with c1|c1
 ·rw [q8 p (.inl (by omega)),List.getElem?_append_left c1,hat p _ (List.getElem?_eq_getElem c1),List.getElem?_eq_getElem c1]
 ·rw [List.getElem?_append_right c1]
  have:=q9 (p-n*sz) (by omega)
  rw [Nat.add_sub_cancel' (by omega)] at this
  rw [this,hcl]
theorem ins_end_grow {z:Value} {E:TypeId} (hsz:0<sz) (hz:z.cells.size=sz) (hcl:cs.length=n*sz) (hvl:vs.length=sz) (hG:n+1≤c)
  (he:e = .returned (.slice (some ⟨w.heap.size,0,none⟩) (n+1) c)) (hw':w'=w.drew.alloc (.cells ((cs++vs).toArray++Builtin.zeroCells z.cells (c-(n+1))) E)):InsPost sz w b row t n n cs vs e w':=by
 have a2:(n+1)*sz=n*sz+sz:=by rw [Nat.add_mul,Nat.one_mul]
 have hzl:(Builtin.zeroCells z.cells (c-(n+1))).size=(c-(n+1))*sz:=by simp [Builtin.zeroCells,hz]
 have a3:c*sz=(n+1)*sz+(c-(n+1))*sz:=by rw [←Nat.add_mul,Nat.add_sub_cancel' hG]
 subst hw'
 refine ⟨w.heap.size,c,(cs++vs).toArray++Builtin.zeroCells z.cells (c-(n+1)),E,he,hG,by rw [alloc_heap,drew_heap]; simp,by simp [hzl,hcl,hvl]; omega,fun p hp=>?_,⟨by rw [alloc_heap,drew_heap]; simp,rfl,rfl,rfl⟩,.inr ⟨Nat.le_refl _,fun b0 h0=>by rw [alloc_heap,drew_heap]; simp [Array.getElem?_push,Nat.ne_of_lt h0]⟩⟩
 rw [Array.getElem?_append_left (by simp; omega),←hcl,List.take_length,List.drop_length,List.append_nil]
 simp
theorem ins_grow {z:Value} {E:TypeId} (hsz:0<sz) (hz:z.cells.size=sz) (hi:i<n) (hcl:cs.length=n*sz) (hvl:vs.length=sz) (hG:n+1≤c)
  (he:e = .returned (.slice (some ⟨w.heap.size,0,none⟩) (n+1) c))
  (hw':w'=(((w.alloc (.cells ((cs.take (i*sz)).toArray++Builtin.zeroCells z.cells (n+1-i)++Builtin.zeroCells z.cells (c-(n+1))) E)).drew.setCells w.heap.size (i*sz) vs).drew).setCells w.heap.size ((i+1)*sz) (cs.drop (i*sz))):InsPost sz w b row t n i cs vs e w':=by
 have a1:(i+1)*sz=i*sz+sz:=by rw [Nat.add_mul,Nat.one_mul]
 have a2:(n+1)*sz=n*sz+sz:=by rw [Nat.add_mul,Nat.one_mul]
 have a3:i*sz+sz≤n*sz:=by rw [←a1]; exact Nat.mul_le_mul_right _ hi
 have hz1:(Builtin.zeroCells z.cells (n+1-i)).size=(n+1-i)*sz:=by simp [Builtin.zeroCells,hz]
 have hz2:(Builtin.zeroCells z.cells (c-(n+1))).size=(c-(n+1))*sz:=by simp [Builtin.zeroCells,hz]
 have a4:c*sz=(n+1)*sz+(c-(n+1))*sz:=by rw [←Nat.add_mul,Nat.add_sub_cancel' hG]
 have a5:(n+1)*sz=i*sz+(n+1-i)*sz:=by rw [←Nat.add_mul,Nat.add_sub_cancel' (by omega)]
 have htk:(cs.take (i*sz)).length=i*sz:=by rw [List.length_take,hcl]; omega
 have hdl:(cs.drop (i*sz)).length=n*sz-i*sz:=by rw [List.length_drop,hcl]
 generalize hR:(cs.take (i*sz)).toArray++Builtin.zeroCells z.cells (n+1-i)++Builtin.zeroCells z.cells (c-(n+1))=ROW at hw'
 have hRs:ROW.size=c*sz:=by rw [←hR]; simp only [Array.size_append,hz1,hz2,List.size_toArray,htk]; omega
 have hR0:∀p,p<i*sz→ROW[p]?=cs[p]?:=fun p hp=>by
  rw [←hR,Array.getElem?_append_left (by simp only [Array.size_append,hz1,List.size_toArray,htk]; omega),Array.getElem?_append_left (by simp only [List.size_toArray,htk]; exact hp)]
  simp [List.getElem?_take_of_lt hp]
 rw [setCells_eq,setCells_eq] at hw'
 have h0:((w.alloc (.cells ROW E)).drew).heap[w.heap.size]?=some (.cells ROW E (0,0)):=by rw [drew_heap,alloc_heap]; simp
 obtain ⟨s1,s2,s3,s4,s5,r1,s6,s7,s8,s9⟩:=setL_spec (t:=E) vs _ (i*sz) ROW h0 (by omega)
 obtain ⟨q1,q2,q3,q4,q5,r2,q6,q7,q8,q9⟩:=setL_spec (t:=E) (cs.drop (i*sz)) (setL ((w.alloc (.cells ROW E)).drew) w.heap.size (i*sz) vs).drew ((i+1)*sz) r1 s6 (by omega)
 rw [←hw'] at q1 q2 q3 q4 q5 q6
 have hpush:((w.alloc (.cells ROW E)).drew).heap.size=w.heap.size+1:=by rw [drew_heap,alloc_heap]; simp
 refine ⟨w.heap.size,c,r2,E,he,hG,q6,by omega,fun p hp=>?_,⟨?_,q2.trans s2,q3.trans s3,q4.trans s4⟩,.inr ⟨Nat.le_refl _,fun b0 hb0=>?_⟩⟩
 ·rw [three_parts,htk,hvl]
  split
  ·rename_i c1
   rw [q8 p (.inl (by omega)),s8 p (.inl c1),hR0 p c1,List.getElem?_take_of_lt c1]
  ·rename_i c1
   split
   ·rw [q8 p (.inl (by omega))]
    have:=s9 (p-i*sz) (by omega)
    rwa [Nat.add_sub_cancel' (by omega)] at this
   ·have:=q9 (p-(i+1)*sz) (by omega)
    rw [Nat.add_sub_cancel' (by omega)] at this
    rw [this]; congr 1; omega
 ·have e1:(setL ((w.alloc (.cells ROW E)).drew) w.heap.size (i*sz) vs).drew.heap.size=(setL ((w.alloc (.cells ROW E)).drew) w.heap.size (i*sz) vs).heap.size:=rfl
  omega
 ·rw [q5 b0 (by omega)]
  refine (s5 b0 (by omega)).trans ?_
  rw [drew_heap,alloc_heap]; simp [Array.getElem?_push,Nat.ne_of_lt hb0]
end
theorem insert_sound {P:Program} {f sz bytes:Nat} (hsz:0<sz) (hby:0<bytes)
  (hI:∀(b n c i vb voff vc:Nat) (cs vs:List Value) (w:World) (row:Array Value) (t:TypeId),i≤n→n≤c→(n+1)*bytes≤140737488355328→n+1≤9223372036854775807→vb≠b→cs.length=n*sz→vs.length=sz→w.heap[b]?=some (.cells row t (0,0))→c*sz≤row.size →
   (∀(p:Nat) (v:Value),cs[p]?=some v→row[p]?=some v)→(∀(p:Nat) (v:Value),vs[p]?=some v→w.cell? ⟨vb,voff+p,none⟩=some v)→(∀v∈cs,v.oneCell'=true)→(∀v∈vs,v.oneCell'=true) →
   Calls P f #[.slice (some ⟨b,0,none⟩) n c,.int .i64 i,.slice (some ⟨vb,voff,none⟩) 1 vc] w (InsPost sz w b row t n i cs vs))
  (h0:∀(A:Option Addr) (vb voff vc:Nat) (vs:List Value) (w:World) (row:Array Value),vs.length=sz→(∀(p:Nat) (v:Value),vs[p]?=some v→w.cell? ⟨vb,voff+p,none⟩=some v)→(∀v∈vs,v.oneCell'=true) →
   Calls P f #[.slice A 0 0,.int .i64 0,.slice (some ⟨vb,voff,none⟩) 1 vc] w fun e w'=>InsPost sz w w.heap.size row 0 0 0 [] vs e w')
  {args:List AVal} {M:AMem} {x:AVal×AMem} (h:pInsert sz bytes args M=some x):SoundCall P f args M x:=by
 unfold pInsert at h
 split at h
 ·rename_i id ver sz' lo hi i tk el
  rw [nth_eq] at h
  split at h
  ·rename_i sz0 v0 xs hM
   obtain ⟨hc,h⟩:=owhen_inv h
   injection h with h; subst h
   obtain ⟨rfl,rfl,rfl,rfl,hi0,hin,hel,hroom⟩:=hc
   intro j w vs hr hG hl hv
   obtain ⟨u1,u2,u3,rfl⟩:=two_args hl
   have h2:=(hv 1 _ u2 rfl rfl).int_inv
   subst h2
   have h3:=(hv 2 _ u3 rfl rfl).slice_sh
   have hwe:wid [el] sz':=fun y hy=>by rw [List.mem_singleton.1 hy]; exact hel
   obtain ⟨A,vc,rfl,_,h4⟩:=slice_row h3 hwe
   obtain ⟨vb,voff,rfl,us,hrl,hul,hone,hcell⟩:=h4.resolve_left (by simp)
   obtain ⟨_,hid,_,g⟩:=(hv 0 _ u1 rfl rfl).aref_inv
   obtain ⟨e1,_,_,b,cap,row,t0,l3,l4,l5,l6,l7⟩:=(g sz0 v0 xs hM).2 rfl
   subst e1; subst l4
   obtain ⟨b',row',t',k1,k2,k3,k4,k5⟩:=hr.arr id _ v0 xs hM
   rw [l3] at k1; injection k1 with k1; subst k1
   rw [l6] at k2; injection k2 with k2; injection k2 with k2 k2'
   subst k2; subst k2'
   have hrow:=arr_row (b:=b) k3 k4 k5
   rw [Nat.sub_zero] at l5
   rw [Nat.zero_add] at l7
   generalize hcs:row.toList.take (xs.length*sz0)=cs at hrow
   have hcl:cs.length=xs.length*sz0:=by rw [←hcs]; simp; omega
   have hat:∀p v,cs[p]?=some v→row[p]?=some v:=fun p v hp=>by
    have hlt:p<xs.length*sz0:=by rw [←hcl]; exact lt_of_some hp
    rw [←hcs,List.getElem?_take_of_lt hlt] at hp; simpa using hp
   obtain ⟨m,rfl⟩:∃m:Nat,i=m:=⟨i.toNat,by omega⟩
   simp only [Int.toNat_natCast] at hin ⊢
   unfold roomOk at hroom
   have hbig:xs.length+1≤2 ^ 44:=Nat.le_trans (Nat.le_mul_of_pos_right _ hby) hroom
   have hvl:us.length=sz0:=by simpa using hul
   have hvb:vb≠b:=by
    rintro rfl
    obtain ⟨s,n,hs1,_⟩:=(hcell 0 _ (List.getElem?_eq_getElem (by omega))).2.ids id hid l3
    rw [hM] at hs1; cases hs1
   rw [Nat.sub_zero,Nat.zero_mul]
   refine (hI b xs.length cap m vb voff vc cs us w row t0 hin l5 (by omega) (by omega) hvb hcl hvl l6 l7 hat (fun p v hp=>(hcell p v hp).1) (fun v hv=>?_) hone).mono ?_
   ·obtain ⟨p,hp⟩:=List.getElem?_of_mem hv
    have hp':p<(flatC xs).length:=by rw [hrow.1]; exact lt_of_some hp
    exact RepP.one (hrow.2 p _ v (List.getElem?_eq_getElem hp') hp)
   ·rintro e w' ⟨b',cap',row',t',rfl,d1,d2,d3,d4,q,d5⟩
    have hwd:wid (xs.take m++el::xs.drop m) sz0:=wid_append (wid_take k4) (fun y hy=>by
     rcases List.mem_cons.1 hy with rfl|hy
     ·exact hel
     ·exact wid_drop k4 y hy)
    have hnew:RL w (Saf j M w) (flatC (xs.take m++el::xs.drop m)) (cs.take (m*sz0)++(us++cs.drop (m*sz0))):=by
     rw [flatC_append,flatC_cons,flatC_take m k4,flatC_drop m k4]
     have hrl':RL w (Saf j M w) el.cells us:=by simpa [flatC] using hrl
     exact (hrow.take _).append (hrl'.append (hrow.drop _))
    have hlen:(xs.take m++el::xs.drop m).length=xs.length+1:=by simp; omega
    have hpl:(cs.take (m*sz0)++(us++cs.drop (m*sz0))).length=(xs.length+1)*sz0:=by rw [←hnew.1,flatC_length hwd,hlen]
    rw [setN_eq]
    rcases d5 with ⟨rfl,rfl,d6,d7⟩|⟨d6,d7⟩
    ·have hput:=arr_put (ver':=v0+1) (xs':=xs.take m++el::xs.drop m) hr hM l3 q d7 l6 d2 d6 (by omega) (fun h=>by omega) hwd hnew (fun p hp=>d4 p (by rw [←hpl]; exact hp))
     refine ⟨_,j,rfl,hput.1,hput.2,.aref ⟨b',0,cap',rfl,by omega⟩ (by simpa using hid) (fun bx hbx=>by rw [set_same (lt_of_some hM)] at hbx; injection hbx with hbx; subst hbx; rfl) fun sz' v' ys hx=>?_⟩
     rw [set_same (lt_of_some hM)] at hx; injection hx with hx; injection hx with e1 e2 e3
     subst e1; subst e2; subst e3
     exact ⟨Nat.le_refl _,fun _=>⟨rfl,Nat.zero_le _,by omega,b',cap',row',t',l3,by simp,by omega,d2,by rw [Nat.zero_add]; exact d3⟩⟩
    ·have hrel:=Rel.arrNew (ver':=v0+1) (xs':=xs.take m++el::xs.drop m) hM hr q d7 d6 (lt_of_block d2) (by omega) (fun j' M' hx=>arr_of_row d2 hwd (hnew.mono hx.saf) (fun p hp=>d4 p (by rw [←hpl]; exact hp)))
     have hext:=Ext.arrNew (j:=j) (ver':=v0+1) (xs':=xs.take m++el::xs.drop m) hM q d7 d6 (by omega)
     refine ⟨_,_,rfl,hrel,hext,.aref ⟨b',0,cap',rfl,by omega⟩ (by simpa using hid) (fun bx hbx=>by rw [set_same (lt_of_some hM)] at hbx; injection hbx with hbx; subst hbx; rfl) fun sz' v' ys hx=>?_⟩
     rw [set_same (lt_of_some hM)] at hx; injection hx with hx; injection hx with e1 e2 e3
     subst e1; subst e2; subst e3
     exact ⟨Nat.le_refl _,fun _=>⟨rfl,Nat.zero_le _,by omega,b',cap',row',t',by simp [upd],by simp,by omega,d2,by rw [Nat.zero_add]; exact d3⟩⟩
  ·cases h
 ·rename_i i tk el
  obtain ⟨hc,h⟩:=owhen_inv h
  injection h with h; subst h
  obtain ⟨rfl,hel⟩:=hc
  intro j w vs hr hG hl hv
  obtain ⟨u1,u2,u3,rfl⟩:=two_args hl
  have h2:=(hv 1 _ u2 rfl rfl).int_inv
  subst h2
  have h3:=(hv 2 _ u3 rfl rfl).slice_sh
  have hwe:wid [el] sz:=fun y hy=>by rw [List.mem_singleton.1 hy]; exact hel
  obtain ⟨A,vc,rfl,_,h4⟩:=slice_row h3 hwe
  obtain ⟨vb,voff,rfl,us,hrl,hul,hone,hcell⟩:=h4.resolve_left (by simp)
  obtain ⟨B,rfl⟩:=(hv 0 _ u1 rfl rfl).c0_inv
  have hvl:us.length=sz:=by simpa using hul
  refine (h0 B vb voff vc us w #[] hvl (fun p v hp=>(hcell p v hp).1) hone).mono ?_
  rintro e w' ⟨b',cap',row',t',rfl,d1,d2,d3,d4,q,d5⟩
  have hbk:w.heap.size≤b'∧∀b0,b0<w.heap.size→w'.heap[b0]?=w.heap[b0]?:=by
   rcases d5 with ⟨rfl,_,_,d7⟩|d5
   ·exact ⟨Nat.le_refl _,fun b0 hb0=>d7 b0 (Nat.ne_of_lt hb0) hb0⟩
   ·exact d5
  have hob:∀b,some b'=some b→w.heap.size≤b∧b<w'.heap.size:=fun b h=>by injection h with h; subst h; exact ⟨hbk.1,lt_of_block d2⟩
  have ext:Ext j M w (upd j M.length (some b')) (M++[.arr sz 0 [el]]) w':=Ext.push (fun b h=>(hob b h).1) q hbk.2
  refine ⟨_,upd j M.length (some b'),rfl,hr.push hob q hbk.2 (fun h=>by cases h) (fun sz n b h _=>by cases h) (fun sz0 v0 xs0 he=>?_),ext,?_⟩
  ·injection he with e1 e2 e3
   subst e1; subst e3
   refine ⟨b',row',t',rfl,d2,by simp at d1 d3 ⊢; exact Nat.le_trans (Nat.le_mul_of_pos_left _ (by omega)) d3,hwe,fun j' M' hx q x k c hx' hk=>?_⟩
   obtain ⟨vs,t,a1,a2,a3,a4⟩:=arr_of_row (j':=j') (M':=M') d2 hwe (hrl.mono hx.saf) (fun p hp=>by have:=d4 p (by omega); simpa using this)
   rw [d2] at a1; injection a1 with a1; injection a1 with a1 a1'
   subst a1
   exact a4 q x k c hx' hk
  ·refine .aref ⟨b',0,cap',rfl,by omega⟩ (by simp) (fun bx hbx=>by rw [app_new] at hbx; injection hbx with hbx; subst hbx; rfl) fun sz' v' xs hx=>?_
   rw [app_new] at hx; injection hx with hx; injection hx with e1 e2 e3
   subst e1; subst e2; subst e3
   exact ⟨Nat.le_refl _,fun _=>⟨rfl,Nat.zero_le _,Nat.le_refl _,b',cap',row',t',by simp [upd],by simp,by omega,d2,by rw [Nat.zero_add]; exact d3⟩⟩
 ·cases h
end Go.Abs
namespace Go.Proofs
open Go.Shelf
def Tryz.powName:String:=match Go.Proofs.YtannopdcbocngaaGreatDoor.Rows.reportOwnRow.laid with
 |_::_::x::_=>x.1
 |_ => ""
def Tryz.lays156_ren:Go.Shelf.Ren:=⟨fun|156=>48|165=>90|166=>50|169=>51|240=>91|241=>127|276=>128|277=>161|n=>n,fun|31=>26|9=>9|3=>3|4=>4|0=>0|20=>20|72=>87|76=>90|70=>85|37=>22|75=>89|127=>142|164=>177|5=>5|80=>92|n=>n,fun|n=>n⟩
theorem Tryz.lays156:Go.Proofs.Lays.n156 Tryz.prog Tryz.lays156_ren:={
 mixed:=by kernel_rfl
 f156:=Tryz.func48.trans (congrArg some (by kernel_rfl))
 f165:=Tryz.func90.trans (congrArg some (by kernel_rfl))
 f166:=Tryz.func50.trans (congrArg some (by kernel_rfl))
 f169:=Tryz.func51.trans (congrArg some (by kernel_rfl))
 f240:=Tryz.func91.trans (congrArg some (by kernel_rfl))
 f241:=Tryz.func127.trans (congrArg some (by kernel_rfl))
 f276:=Tryz.func128.trans (congrArg some (by kernel_rfl))
 f277:=Tryz.func161.trans (congrArg some (by kernel_rfl))
 t0:=Tryz.underlying0
 a0:=Tryz.isAgg0
 z0:=Tryz.sizeOf0
 v0:=Tryz.zeroValue0
 t3:=Tryz.underlying3
 a3:=Tryz.isAgg3
 z3:=Tryz.sizeOf3
 v3:=Tryz.zeroValue3
 t4:=Tryz.underlying4
 a4:=Tryz.isAgg4
 z4:=Tryz.sizeOf4
 v4:=Tryz.zeroValue4
 t9:=Tryz.underlying9
 a9:=Tryz.isAgg9
 z9:=Tryz.sizeOf9
 v9:=Tryz.zeroValue9
 t20:=Tryz.underlying20
 a20:=Tryz.isAgg20
 z20:=Tryz.sizeOf20
 v20:=Tryz.zeroValue20
 t31:=Tryz.underlying26
 a31:=Tryz.isAgg26
 z31:=Tryz.sizeOf26
 v31:=Tryz.zeroValue26
 t37:=Tryz.underlying22
 a37:=Tryz.isAgg22
 z37:=Tryz.sizeOf22
 v37:=Tryz.zeroValue22
 t70:=Tryz.underlying85
 a70:=Tryz.isAgg85
 z70:=Tryz.sizeOf85
 v70:=Tryz.zeroValue85
 t72:=Tryz.underlying87
 a72:=Tryz.isAgg87
 z72:=Tryz.sizeOf87
 v72:=Tryz.zeroValue87
 t75:=Tryz.underlying89
 a75:=Tryz.isAgg89
 z75:=Tryz.sizeOf89
 v75:=Tryz.zeroValue89
 t76:=Tryz.underlying90
 a76:=Tryz.isAgg90
 z76:=Tryz.sizeOf90
 v76:=Tryz.zeroValue90
 t127:=Tryz.underlying142
 a127:=Tryz.isAgg142
 z127:=Tryz.sizeOf142
 v127:=Tryz.zeroValue142
 t164:=Tryz.underlying177
 a164:=Tryz.isAgg177
 z164:=Tryz.sizeOf177
 v164:=Tryz.zeroValue177 }
theorem Tryz.Builder_Extra_156:Builder.Extra Tryz.prog Tryz.lays156_ren:={
 sizeBuilder:=by kernel_rfl
 liesBuilder:=by kernel_rfl
 t5:=Tryz.underlying5
 a5:=Tryz.isAgg5
 z5:=Tryz.sizeOf5
 v5:=Tryz.zeroValue5
 infoByte:=by kernel_rfl
 cellsByte:=by kernel_rfl
 sizeByte:=by kernel_rfl
 neB5:=by decide }
open Go.RowKit in
theorem Tryz.strings_Join_none (a:Option Addr) (c:Nat) (sep:ByteArray) (w:World) :
  Calls Tryz.prog 48 #[.slice a 0 c,.string sep] w fun e w'=>e = .returned (.string ⟨#[]⟩)∧w'=w:=Any.strings_Join_none Tryz.lays156 Tryz.Builder_Extra_156 a c sep w
open Go.RowKit in
theorem Tryz.strings_Join (bk o c:Nat) (xs:List ByteArray) (sep:ByteArray) (w:World) (hcells:∀(j:Nat) x,xs[j]?=some x→w.cell? ⟨bk,o+j,none⟩=some (.string x)) (hbk:bk<w.heap.size) (hN:xs.length≤140737488355328) (hcap:xs.length≤c) (hlen:(Lib.join (xs.map (·.data.toList)) sep.data.toList).length≤140737488355328) :
  Calls Tryz.prog 48 #[.slice (some ⟨bk,o,none⟩) xs.length c,.string sep] w fun e w'=>e = .returned (.string ⟨(Lib.join (xs.map (·.data.toList)) sep.data.toList).toArray⟩)∧Below w.heap.size w w':=Any.strings_Join Tryz.lays156 Tryz.Builder_Extra_156 bk o c xs sep w hcells hbk hN hcap hlen
def Tryz.lays137_ren:Go.Shelf.Ren:=⟨fun|137=>98|217=>139|266=>168|n=>n,fun|9=>9|5=>5|3=>3|n=>n,fun|n=>n⟩
theorem Tryz.lays137:Go.Proofs.Lays.n137 Tryz.prog Tryz.lays137_ren:={
 mixed:=by kernel_rfl
 f137:=Tryz.func98.trans (congrArg some (by kernel_rfl))
 f217:=Tryz.func139.trans (congrArg some (by kernel_rfl))
 f266:=Tryz.func168.trans (congrArg some (by kernel_rfl))
 t3:=Tryz.underlying3
 a3:=Tryz.isAgg3
 z3:=Tryz.sizeOf3
 v3:=Tryz.zeroValue3
 t5:=Tryz.underlying5
 a5:=Tryz.isAgg5
 z5:=Tryz.sizeOf5
 v5:=Tryz.zeroValue5
 t9:=Tryz.underlying9
 a9:=Tryz.isAgg9
 z9:=Tryz.sizeOf9
 v9:=Tryz.zeroValue9 }
open Go.RowKit in
theorem Tryz.strings_IndexByte (s:ByteArray) (c:Int) (w:World) :
  Calls Tryz.prog 98 #[.string s,.int .u8 c] w fun e w'=>e = .returned (.int .i64 (Lib.indexByte s.data.toList c.toNat.toUInt8))∧w'=w:=Any.strings_IndexByte Tryz.lays137 s c w
def Tryz.laysM171_ren:Go.Shelf.Ren:=⟨fun|171=>42|243=>87|246=>126|283=>157|284=>158|285=>159|286=>160|129=>176|317=>175|318=>177|319=>178|320=>179|337=>188|338=>189|n=>n,fun|3=>3|9=>9|2=>2|4=>4|171=>203|0=>0|53=>127|37=>22|5=>5|173=>206|212=>216|51=>217|20=>20|213=>218|46=>140|232=>233|233=>234|n=>n,fun|17=>3|18=>7|19=>8|n=>n⟩
theorem Tryz.laysM171:Go.Proofs.LaysM.n171 Tryz.prog Tryz.laysM171_ren:={
 mixed:=by kernel_rfl
 f129:=Tryz.func176.trans (congrArg some (by kernel_rfl))
 f171:=Tryz.func42.trans (congrArg some (by kernel_rfl))
 f243:=Tryz.func87.trans (congrArg some (by kernel_rfl))
 f246:=Tryz.func126.trans (congrArg some (by kernel_rfl))
 f283:=Tryz.func157.trans (congrArg some (by kernel_rfl))
 f284:=Tryz.func158.trans (congrArg some (by kernel_rfl))
 f285:=Tryz.func159.trans (congrArg some (by kernel_rfl))
 f286:=Tryz.func160.trans (congrArg some (by kernel_rfl))
 f317:=Tryz.func175.trans (congrArg some (by kernel_rfl))
 f318:=Tryz.func177.trans (congrArg some (by kernel_rfl))
 f319:=Tryz.func178.trans (congrArg some (by kernel_rfl))
 f320:=Tryz.func179.trans (congrArg some (by kernel_rfl))
 f337:=Tryz.func188.trans (congrArg some (by kernel_rfl))
 f338:=Tryz.func189.trans (congrArg some (by kernel_rfl))
 t0:=Tryz.underlying0
 a0:=Tryz.isAgg0
 z0:=Tryz.sizeOf0
 v0:=Tryz.zeroValue0
 t2:=Tryz.underlying2
 a2:=Tryz.isAgg2
 z2:=Tryz.sizeOf2
 v2:=Tryz.zeroValue2
 t3:=Tryz.underlying3
 a3:=Tryz.isAgg3
 z3:=Tryz.sizeOf3
 v3:=Tryz.zeroValue3
 t4:=Tryz.underlying4
 a4:=Tryz.isAgg4
 z4:=Tryz.sizeOf4
 v4:=Tryz.zeroValue4
 t5:=Tryz.underlying5
 a5:=Tryz.isAgg5
 z5:=Tryz.sizeOf5
 v5:=Tryz.zeroValue5
 t9:=Tryz.underlying9
 a9:=Tryz.isAgg9
 z9:=Tryz.sizeOf9
 v9:=Tryz.zeroValue9
 t20:=Tryz.underlying20
 a20:=Tryz.isAgg20
 z20:=Tryz.sizeOf20
 v20:=Tryz.zeroValue20
 t37:=Tryz.underlying22
 a37:=Tryz.isAgg22
 z37:=Tryz.sizeOf22
 v37:=Tryz.zeroValue22
 t46:=Tryz.underlying140
 a46:=Tryz.isAgg140
 z46:=Tryz.sizeOf140
 v46:=Tryz.zeroValue140
 t51:=Tryz.underlying217
 a51:=Tryz.isAgg217
 z51:=Tryz.sizeOf217
 v51:=Tryz.zeroValue217
 t53:=Tryz.underlying127
 a53:=Tryz.isAgg127
 z53:=Tryz.sizeOf127
 v53:=Tryz.zeroValue127
 t171:=Tryz.underlying203
 a171:=Tryz.isAgg203
 z171:=Tryz.sizeOf203
 v171:=Tryz.zeroValue203
 t173:=Tryz.underlying206
 a173:=Tryz.isAgg206
 z173:=Tryz.sizeOf206
 v173:=Tryz.zeroValue206
 t212:=Tryz.underlying216
 a212:=Tryz.isAgg216
 z212:=Tryz.sizeOf216
 v212:=Tryz.zeroValue216
 t213:=Tryz.underlying218
 a213:=Tryz.isAgg218
 z213:=Tryz.sizeOf218
 t232:=Tryz.underlying233
 a232:=Tryz.isAgg233
 z232:=Tryz.sizeOf233
 v232:=Tryz.zeroValue233
 t233:=Tryz.underlying234
 a233:=Tryz.isAgg234
 z233:=Tryz.sizeOf234
 v233:=Tryz.zeroValue234
 g17:=by kernel_rfl
 g18:=by kernel_rfl
 g19:=by kernel_rfl
 i0:=by kernel_rfl
 i2:=by kernel_rfl
 i3:=by kernel_rfl
 i4:=by kernel_rfl
 i5:=by kernel_rfl
 i9:=by kernel_rfl
 i20:=by kernel_rfl
 i37:=by kernel_rfl
 i46:=by kernel_rfl
 i51:=by kernel_rfl
 i53:=by kernel_rfl
 i171:=by kernel_rfl
 i173:=by kernel_rfl
 i212:=by kernel_rfl
 i232:=by kernel_rfl
 i233:=by kernel_rfl
 m17:=by kernel_rfl
 m18:=by kernel_rfl
 m19:=by kernel_rfl }
open Go.RowKit Go.Sort Go.Lib in
theorem Tryz.strconv_Itoa (n:Int) (h0 : -9223372036854775808≤n) (h1:n≤9223372036854775807) (w:World) (htab:Lib.TabIs Tryz.prog w Tryz.powName .u64 Lib.pow10Tab) :
  Calls Tryz.prog 42 #[.int .i64 n] w fun e w'=>e = .returned (.string ⟨(Lib.itoa n).toArray⟩)∧∃k os,w'=grow (w.drewN k) os:=Any.strconv_Itoa Tryz.laysM171 n h0 h1 w htab
def Tryz.laysC172_ren:Go.Shelf.Ren:=⟨fun|172=>58|244=>94|245=>95|247=>130|279=>131|280=>132|281=>133|282=>134|287=>163|316=>164|171=>42|205=>165|321=>183|322=>184|243=>87|246=>126|283=>157|284=>158|285=>159|286=>160|129=>176|317=>175|318=>177|319=>178|320=>179|337=>188|338=>189|n=>n,fun|9=>9|3=>3|75=>89|76=>90|4=>4|5=>5|167=>179|37=>22|0=>0|85=>180|2=>2|168=>182|53=>127|175=>209|46=>140|210=>212|127=>142|145=>223|143=>221|21=>21|171=>203|173=>206|212=>216|51=>217|20=>20|213=>218|232=>233|233=>234|80=>92|n=>n,fun|15=>1|16=>2|17=>3|18=>7|19=>8|n=>n⟩
theorem Tryz.laysC172:Go.Proofs.LaysC.n172 Tryz.prog Tryz.laysC172_ren:={
 mixed:=by kernel_rfl
 f129:=Tryz.func176.trans (congrArg some (by kernel_rfl))
 f171:=Tryz.func42.trans (congrArg some (by kernel_rfl))
 f172:=Tryz.func58.trans (congrArg some (by kernel_rfl))
 f205:=Tryz.func165.trans (congrArg some (by kernel_rfl))
 f243:=Tryz.func87.trans (congrArg some (by kernel_rfl))
 f244:=Tryz.func94.trans (congrArg some (by kernel_rfl))
 f245:=Tryz.func95.trans (congrArg some (by kernel_rfl))
 f246:=Tryz.func126.trans (congrArg some (by kernel_rfl))
 f247:=Tryz.func130.trans (congrArg some (by kernel_rfl))
 f279:=Tryz.func131.trans (congrArg some (by kernel_rfl))
 f280:=Tryz.func132.trans (congrArg some (by kernel_rfl))
 f281:=Tryz.func133.trans (congrArg some (by kernel_rfl))
 f282:=Tryz.func134.trans (congrArg some (by kernel_rfl))
 f283:=Tryz.func157.trans (congrArg some (by kernel_rfl))
 f284:=Tryz.func158.trans (congrArg some (by kernel_rfl))
 f285:=Tryz.func159.trans (congrArg some (by kernel_rfl))
 f286:=Tryz.func160.trans (congrArg some (by kernel_rfl))
 f287:=Tryz.func163.trans (congrArg some (by kernel_rfl))
 f316:=Tryz.func164.trans (congrArg some (by kernel_rfl))
 f317:=Tryz.func175.trans (congrArg some (by kernel_rfl))
 f318:=Tryz.func177.trans (congrArg some (by kernel_rfl))
 f319:=Tryz.func178.trans (congrArg some (by kernel_rfl))
 f320:=Tryz.func179.trans (congrArg some (by kernel_rfl))
 f321:=Tryz.func183.trans (congrArg some (by kernel_rfl))
 f322:=Tryz.func184.trans (congrArg some (by kernel_rfl))
 f337:=Tryz.func188.trans (congrArg some (by kernel_rfl))
 f338:=Tryz.func189.trans (congrArg some (by kernel_rfl))
 t0:=Tryz.underlying0
 a0:=Tryz.isAgg0
 z0:=Tryz.sizeOf0
 v0:=Tryz.zeroValue0
 t2:=Tryz.underlying2
 a2:=Tryz.isAgg2
 z2:=Tryz.sizeOf2
 v2:=Tryz.zeroValue2
 t3:=Tryz.underlying3
 a3:=Tryz.isAgg3
 z3:=Tryz.sizeOf3
 v3:=Tryz.zeroValue3
 t4:=Tryz.underlying4
 a4:=Tryz.isAgg4
 z4:=Tryz.sizeOf4
 v4:=Tryz.zeroValue4
 t5:=Tryz.underlying5
 a5:=Tryz.isAgg5
 z5:=Tryz.sizeOf5
 v5:=Tryz.zeroValue5
 t9:=Tryz.underlying9
 a9:=Tryz.isAgg9
 z9:=Tryz.sizeOf9
 v9:=Tryz.zeroValue9
 t20:=Tryz.underlying20
 a20:=Tryz.isAgg20
 z20:=Tryz.sizeOf20
 v20:=Tryz.zeroValue20
 t21:=Tryz.underlying21
 a21:=Tryz.isAgg21
 z21:=Tryz.sizeOf21
 v21:=Tryz.zeroValue21
 t37:=Tryz.underlying22
 a37:=Tryz.isAgg22
 z37:=Tryz.sizeOf22
 v37:=Tryz.zeroValue22
 t46:=Tryz.underlying140
 a46:=Tryz.isAgg140
 z46:=Tryz.sizeOf140
 v46:=Tryz.zeroValue140
 t51:=Tryz.underlying217
 a51:=Tryz.isAgg217
 z51:=Tryz.sizeOf217
 v51:=Tryz.zeroValue217
 t53:=Tryz.underlying127
 a53:=Tryz.isAgg127
 z53:=Tryz.sizeOf127
 v53:=Tryz.zeroValue127
 t75:=Tryz.underlying89
 a75:=Tryz.isAgg89
 z75:=Tryz.sizeOf89
 v75:=Tryz.zeroValue89
 t76:=Tryz.underlying90
 a76:=Tryz.isAgg90
 z76:=Tryz.sizeOf90
 v76:=Tryz.zeroValue90
 t85:=Tryz.underlying180
 a85:=Tryz.isAgg180
 z85:=Tryz.sizeOf180
 v85:=Tryz.zeroValue180
 t127:=Tryz.underlying142
 a127:=Tryz.isAgg142
 z127:=Tryz.sizeOf142
 v127:=Tryz.zeroValue142
 t143:=Tryz.underlying221
 a143:=Tryz.isAgg221
 z143:=Tryz.sizeOf221
 v143:=Tryz.zeroValue221
 t145:=Tryz.underlying223
 a145:=Tryz.isAgg223
 z145:=Tryz.sizeOf223
 v145:=Tryz.zeroValue223
 t167:=Tryz.underlying179
 a167:=Tryz.isAgg179
 z167:=Tryz.sizeOf179
 v167:=Tryz.zeroValue179
 t168:=Tryz.underlying182
 a168:=Tryz.isAgg182
 z168:=Tryz.sizeOf182
 v168:=Tryz.zeroValue182
 t171:=Tryz.underlying203
 a171:=Tryz.isAgg203
 z171:=Tryz.sizeOf203
 v171:=Tryz.zeroValue203
 t173:=Tryz.underlying206
 a173:=Tryz.isAgg206
 z173:=Tryz.sizeOf206
 v173:=Tryz.zeroValue206
 t175:=Tryz.underlying209
 a175:=Tryz.isAgg209
 z175:=Tryz.sizeOf209
 v175:=Tryz.zeroValue209
 t210:=Tryz.underlying212
 a210:=Tryz.isAgg212
 z210:=Tryz.sizeOf212
 v210:=Tryz.zeroValue212
 t212:=Tryz.underlying216
 a212:=Tryz.isAgg216
 z212:=Tryz.sizeOf216
 v212:=Tryz.zeroValue216
 t213:=Tryz.underlying218
 a213:=Tryz.isAgg218
 z213:=Tryz.sizeOf218
 t232:=Tryz.underlying233
 a232:=Tryz.isAgg233
 z232:=Tryz.sizeOf233
 v232:=Tryz.zeroValue233
 t233:=Tryz.underlying234
 a233:=Tryz.isAgg234
 z233:=Tryz.sizeOf234
 v233:=Tryz.zeroValue234
 g15:=by kernel_rfl
 g16:=by kernel_rfl
 g17:=by kernel_rfl
 g18:=by kernel_rfl
 g19:=by kernel_rfl
 t80:=Tryz.underlying92
 a80:=Tryz.isAgg92
 z80:=Tryz.sizeOf92
 v80:=Tryz.zeroValue92
 i0:=by kernel_rfl
 i2:=by kernel_rfl
 i3:=by kernel_rfl
 i4:=by kernel_rfl
 i5:=by kernel_rfl
 i9:=by kernel_rfl
 i20:=by kernel_rfl
 i21:=by kernel_rfl
 i37:=by kernel_rfl
 i46:=by kernel_rfl
 i51:=by kernel_rfl
 i53:=by kernel_rfl
 i75:=by kernel_rfl
 i76:=by kernel_rfl
 i80:=by kernel_rfl
 i85:=by kernel_rfl
 i127:=by kernel_rfl
 i143:=by kernel_rfl
 i145:=by kernel_rfl
 i167:=by kernel_rfl
 i168:=by kernel_rfl
 i171:=by kernel_rfl
 i173:=by kernel_rfl
 i175:=by kernel_rfl
 i210:=by kernel_rfl
 i212:=by kernel_rfl
 i232:=by kernel_rfl
 i233:=by kernel_rfl
 m15:=by kernel_rfl
 m16:=by kernel_rfl
 m17:=by kernel_rfl
 m18:=by kernel_rfl
 m19:=by kernel_rfl
 c0:=by kernel_rfl
 c2:=by kernel_rfl
 c3:=by kernel_rfl
 c4:=by kernel_rfl
 c5:=by kernel_rfl
 c9:=by kernel_rfl
 c20:=by kernel_rfl
 c21:=by kernel_rfl
 c37:=by kernel_rfl
 c46:=by kernel_rfl
 c51:=by kernel_rfl
 c53:=by kernel_rfl
 c75:=by kernel_rfl
 c76:=by kernel_rfl
 c80:=by kernel_rfl
 c85:=by kernel_rfl
 c127:=by kernel_rfl
 c143:=by kernel_rfl
 c145:=by kernel_rfl
 c167:=by kernel_rfl
 c168:=by kernel_rfl
 c171:=by kernel_rfl
 c173:=by kernel_rfl
 c175:=by kernel_rfl
 c210:=by kernel_rfl
 c212:=by kernel_rfl
 c213:=by kernel_rfl
 c232:=by kernel_rfl
 c233:=by kernel_rfl }
open Go.RowKit in
theorem Tryz.strconv_Atoi_ok (s:ByteArray) (hmax:s.size≤9223372036854775806) (v:Int) (h:Lib.atoiAll s.data.toList = .ok v) (w:World) :
  Calls Tryz.prog 58 #[.string s] w fun e w'=>e = .returned (.tuple #[.int .i64 v,.nilIface])∧(w'=w∨∃t,w'=Lib.bytesWorld w 5 t):=Any.strconv_Atoi_ok Tryz.laysC172 s hmax v h w
open Go.RowKit in
theorem Tryz.strconv_Atoi_syntax (s:ByteArray) (hlim:s.size≤281474976710656) (h:Lib.atoiAll s.data.toList=(Lib.atoiAll [])) (ev:Value) (w:World) (hv:w.cell? ⟨1,0,none⟩=some ev) (hev:ev = .nilIface∨∃te pe,ev = .iface te pe) :
  Calls Tryz.prog 58 #[.string s] w fun e w'=>∃N,e = .returned (.tuple #[.int .i64 (0),.iface 182 (.pointer (some ⟨N,0,none⟩))])∧w.heap.size≤N∧w'.heap[N]?=some (.cells #[.string ⟨#[65,116,111,105]⟩,.string s,ev] 212 (0,0))∧Below w.heap.size w w':=Any.strconv_Atoi_syntax Tryz.laysC172 s hlim h ev w hv hev
open Go.RowKit in
theorem Tryz.strconv_Atoi_range (s:ByteArray) (hlim:s.size≤281474976710656) (h:Lib.atoiAll s.data.toList = .range) (ev:Value) (w:World) (hv:w.cell? ⟨2,0,none⟩=some ev) (hev:ev = .nilIface∨∃te pe,ev = .iface te pe) :
  Calls Tryz.prog 58 #[.string s] w fun e w'=>∃N,e = .returned (.tuple #[.int .i64 (Lib.atoiSat s.data.toList),.iface 182 (.pointer (some ⟨N,0,none⟩))])∧w.heap.size≤N∧w'.heap[N]?=some (.cells #[.string ⟨#[65,116,111,105]⟩,.string s,ev] 212 (0,0))∧Below w.heap.size w w':=Any.strconv_Atoi_range Tryz.laysC172 s hlim h ev w hv hev
def Tryz.lays145_ren:Go.Shelf.Ren:=⟨fun|145=>93|220=>129|219=>162|217=>139|225=>180|224=>181|267=>182|266=>168|314=>190|n=>n,fun|9=>9|4=>4|59=>146|3=>3|5=>5|46=>140|146=>231|51=>217|n=>n,fun|1=>4|n=>n⟩
theorem Tryz.lays145:Go.Proofs.Lays.n145 Tryz.prog Tryz.lays145_ren:={
 mixed:=by kernel_rfl
 f145:=Tryz.func93.trans (congrArg some (by kernel_rfl))
 f217:=Tryz.func139.trans (congrArg some (by kernel_rfl))
 f219:=Tryz.func162.trans (congrArg some (by kernel_rfl))
 f220:=Tryz.func129.trans (congrArg some (by kernel_rfl))
 f224:=Tryz.func181.trans (congrArg some (by kernel_rfl))
 f225:=Tryz.func180.trans (congrArg some (by kernel_rfl))
 f266:=Tryz.func168.trans (congrArg some (by kernel_rfl))
 f267:=Tryz.func182.trans (congrArg some (by kernel_rfl))
 f314:=Tryz.func190.trans (congrArg some (by kernel_rfl))
 t3:=Tryz.underlying3
 a3:=Tryz.isAgg3
 z3:=Tryz.sizeOf3
 v3:=Tryz.zeroValue3
 t4:=Tryz.underlying4
 a4:=Tryz.isAgg4
 z4:=Tryz.sizeOf4
 v4:=Tryz.zeroValue4
 t5:=Tryz.underlying5
 a5:=Tryz.isAgg5
 z5:=Tryz.sizeOf5
 v5:=Tryz.zeroValue5
 t9:=Tryz.underlying9
 a9:=Tryz.isAgg9
 z9:=Tryz.sizeOf9
 v9:=Tryz.zeroValue9
 t46:=Tryz.underlying140
 a46:=Tryz.isAgg140
 z46:=Tryz.sizeOf140
 v46:=Tryz.zeroValue140
 t51:=Tryz.underlying217
 a51:=Tryz.isAgg217
 z51:=Tryz.sizeOf217
 v51:=Tryz.zeroValue217
 t59:=Tryz.underlying146
 a59:=Tryz.isAgg146
 z59:=Tryz.sizeOf146
 v59:=Tryz.zeroValue146
 t146:=Tryz.underlying231
 a146:=Tryz.isAgg231
 z146:=Tryz.sizeOf231
 v146:=Tryz.zeroValue231
 g1:=by kernel_rfl }
open Go.RowKit Go.Lib in
theorem Tryz.strings_Cut (s sep:ByteArray) (m:Int) (w:World) (hs:s.size<4294967281) (hm:w.cell? ⟨4,0,none⟩=some (.int .i64 m)) :
  Calls Tryz.prog 93 #[.string s,.string sep] w fun e w'=>e = .returned (.tuple #[.string ⟨(Lib.cut s.data.toList sep.data.toList).1.toArray⟩,.string ⟨(Lib.cut s.data.toList sep.data.toList).2.1.toArray⟩,.bool (Lib.cut s.data.toList sep.data.toList).2.2])∧∃n,w'=w.drewN n:=Any.strings_Cut Tryz.lays145 s sep m w hs hm
def Tryz.lays146_ren:Go.Shelf.Ren:=⟨fun|146=>64|221=>97|268=>136|138=>137|143=>138|195=>166|197=>141|218=>167|219=>162|260=>169|217=>139|225=>180|224=>181|267=>182|266=>168|314=>190|n=>n,fun|9=>9|31=>26|3=>3|4=>4|0=>0|105=>188|21=>21|5=>5|46=>140|119=>224|139=>227|138=>226|146=>231|51=>217|n=>n,fun|1=>4|3=>5|4=>6|n=>n⟩
theorem Tryz.lays146:Go.Proofs.Lays.n146 Tryz.prog Tryz.lays146_ren:={
 mixed:=by kernel_rfl
 f138:=Tryz.func137.trans (congrArg some (by kernel_rfl))
 f143:=Tryz.func138.trans (congrArg some (by kernel_rfl))
 f146:=Tryz.func64.trans (congrArg some (by kernel_rfl))
 f195:=Tryz.func166.trans (congrArg some (by kernel_rfl))
 f197:=Tryz.func141.trans (congrArg some (by kernel_rfl))
 f217:=Tryz.func139.trans (congrArg some (by kernel_rfl))
 f218:=Tryz.func167.trans (congrArg some (by kernel_rfl))
 f219:=Tryz.func162.trans (congrArg some (by kernel_rfl))
 f221:=Tryz.func97.trans (congrArg some (by kernel_rfl))
 f224:=Tryz.func181.trans (congrArg some (by kernel_rfl))
 f225:=Tryz.func180.trans (congrArg some (by kernel_rfl))
 f260:=Tryz.func169.trans (congrArg some (by kernel_rfl))
 f266:=Tryz.func168.trans (congrArg some (by kernel_rfl))
 f267:=Tryz.func182.trans (congrArg some (by kernel_rfl))
 f268:=Tryz.func136.trans (congrArg some (by kernel_rfl))
 f314:=Tryz.func190.trans (congrArg some (by kernel_rfl))
 t0:=Tryz.underlying0
 a0:=Tryz.isAgg0
 z0:=Tryz.sizeOf0
 v0:=Tryz.zeroValue0
 t3:=Tryz.underlying3
 a3:=Tryz.isAgg3
 z3:=Tryz.sizeOf3
 v3:=Tryz.zeroValue3
 t4:=Tryz.underlying4
 a4:=Tryz.isAgg4
 z4:=Tryz.sizeOf4
 v4:=Tryz.zeroValue4
 t5:=Tryz.underlying5
 a5:=Tryz.isAgg5
 z5:=Tryz.sizeOf5
 v5:=Tryz.zeroValue5
 t9:=Tryz.underlying9
 a9:=Tryz.isAgg9
 z9:=Tryz.sizeOf9
 v9:=Tryz.zeroValue9
 t21:=Tryz.underlying21
 a21:=Tryz.isAgg21
 z21:=Tryz.sizeOf21
 v21:=Tryz.zeroValue21
 t31:=Tryz.underlying26
 a31:=Tryz.isAgg26
 z31:=Tryz.sizeOf26
 v31:=Tryz.zeroValue26
 t46:=Tryz.underlying140
 a46:=Tryz.isAgg140
 z46:=Tryz.sizeOf140
 v46:=Tryz.zeroValue140
 t51:=Tryz.underlying217
 a51:=Tryz.isAgg217
 z51:=Tryz.sizeOf217
 v51:=Tryz.zeroValue217
 t105:=Tryz.underlying188
 a105:=Tryz.isAgg188
 z105:=Tryz.sizeOf188
 v105:=Tryz.zeroValue188
 t119:=Tryz.underlying224
 a119:=Tryz.isAgg224
 z119:=Tryz.sizeOf224
 t138:=Tryz.underlying226
 a138:=Tryz.isAgg226
 z138:=Tryz.sizeOf226
 v138:=Tryz.zeroValue226
 t139:=Tryz.underlying227
 a139:=Tryz.isAgg227
 z139:=Tryz.sizeOf227
 v139:=Tryz.zeroValue227
 t146:=Tryz.underlying231
 a146:=Tryz.isAgg231
 z146:=Tryz.sizeOf231
 v146:=Tryz.zeroValue231
 g1:=by kernel_rfl
 g3:=by kernel_rfl
 g4:=by kernel_rfl }
open Go.RowKit Go.Lib in
theorem Tryz.strings_Split (s sep:ByteArray) (m:Int) (w:World) (hs:s.size<4294967281) (hm:w.cell? ⟨4,0,none⟩=some (.int .i64 m)) (h1:1≤sep.size) :
  Calls Tryz.prog 64 #[.string s,.string sep] w fun e w' =>
   e = .returned (.slice (some ⟨w.heap.size,0,none⟩) (Lib.countB s sep+1) (Lib.countB s sep+1))∧w'=w.alloc (.cells ((Lib.splitB sep 0 (Lib.countB s sep) s).map Value.string).toArray 9):=Any.strings_Split Tryz.lays146 (by kernel_rfl) s sep m w hs hm h1
end Go.Proofs
namespace Go.Proofs.YtannopdcbocngaaGreatDoor
open Go Go.Abs Go.RowKit
theorem sound_below {P:Program} {f:Nat} {args:List AVal} {M:AMem} {r:AVal}
  (h:∀(j:J) (w:World) (vs:Array Value),Rel j M w→Glob j M w→args.length=vs.size→(∀(i:Nat) (c:AVal) (v:Value),args[i]?=some c→vs[i]?=some v→Rep j M w c v) →
   Calls P f vs w fun e w'=>∃v,e = .returned v∧Below w.heap.size w w'∧Rep j M w' r v):SoundCall P f args M (r,M):=by
 intro j w vs hr hG hl hv
 refine (h j w vs hr hG hl hv).mono ?_
 rintro e w' ⟨v,rfl,hb,hrep⟩
 exact ⟨v,j,rfl,hr.grow hb.size hb.os hb.tape hb.output hb.block,Ext.grow hb.size hb.os hb.tape hb.output hb.block,hrep⟩
theorem below_drewN (w:World) (n:Nat):Below w.heap.size w (w.drewN n):=⟨rfl,rfl,rfl,Nat.le_refl _,fun _ _=>rfl⟩
theorem maxLenG {j:J} {M:AMem} {w:World} (hG:Glob j M w):∃m,w.cell? ⟨4,0,none⟩=some (.int .i64 m):=by
 obtain ⟨v,⟨m,rfl⟩,_,h⟩:=hG.q 4 _ rfl
 exact ⟨m,h⟩
theorem errG {j:J} {M:AMem} {w:World} (hG:Glob j M w) (b:Nat) (hb:b=1∨b=2):∃v,w.cell? ⟨b,0,none⟩=some v∧(v = .nilIface∨∃te pe,v = .iface te pe):=by
 rcases hb with rfl|rfl
 ·obtain ⟨v,⟨t,p,rfl⟩,_,h⟩:=hG.q 1 _ rfl
  exact ⟨_,h,.inr ⟨t,p,rfl⟩⟩
 ·obtain ⟨v,⟨t,p,rfl⟩,_,h⟩:=hG.q 2 _ rfl
  exact ⟨_,h,.inr ⟨t,p,rfl⟩⟩
theorem tabG {j:J} {M:AMem} {w:World} (hG:Glob j M w):Lib.TabIs Tryz.prog w Tryz.powName .u64 Lib.pow10Tab:=by
 obtain ⟨us,t,fr,h1,h2⟩:=hG.n 3 _ rfl
 have hn:Tryz.prog.globalNamed Tryz.powName=some 3:=by kernel_rfl
 unfold Lib.TabIs World.var?
 rw [hn]
 simp only [Option.bind_some,h1]
 congr 1
 apply Array.ext
 ·rw [h2]; rfl
 ·intro i hi hi'
  have hi2:i<(pow10L.map fun (n:Nat)=>Value.int .u64 (n:Int)).length:=by rw [←h2]; exact hi
  have hk:=List.getElem?_eq_getElem hi2
  have:=(hG.g 3 _ i _ rfl hk).2
  simp only [World.cell?,h1,Option.isSome_none,Bool.false_eq_true,if_false,Array.getElem?_eq_getElem hi,Option.some.injEq] at this
  rw [this]
  have e:(pow10L.map fun (n:Nat)=>Value.int .u64 (n:Int))=Lib.pow10Tab.map fun z=>Value.int .u64 z:=by
   have e0:Lib.pow10Tab=pow10L.map fun (n:Nat)=>(n:Int):=by decide +kernel
   rw [e0,List.map_map]; rfl
  simp only [e]
  simp
def pItoa:List AVal→AMem→Option (AVal×AMem)
 | [.int k n],M=>if k = .i64 ∧ -9223372036854775808≤n∧n≤9223372036854775807 then some (.str (Lib.itoa n),M) else none
 |_,_=>none
theorem itoas {args:List AVal} {M:AMem} {x:AVal×AMem} (h:pItoa args M=some x):SoundCall Tryz.prog 42 args M x:=by
 unfold pItoa at h
 split at h
 ·rename_i k n
  split at h
  ·rename_i hc
   obtain ⟨rfl,h0,h1⟩:=hc
   injection h with h; subst h
   refine sound_below fun j w vs hr hG hl hv=>?_
   obtain ⟨u,rfl⟩:=one_arg hl
   obtain rfl:=(hv 0 _ u rfl rfl).int_inv
   refine (Tryz.strconv_Itoa n h0 h1 w (tabG hG)).mono ?_
   rintro e w' ⟨rfl,k,os,rfl⟩
   exact ⟨_,rfl,Lib.below_grow _ _ (Nat.le_refl _) _ _,.plain (.str _)⟩
  ·cases h
 ·cases h
def atoiN (s:List UInt8):Int:=match Lib.atoiAll s with
 | .ok v=>v
 | .range=>Lib.atoiSat s
 |_=>0
def pAtoi:List AVal→AMem→Option (AVal×AMem)
 | [.str s],M=>if s.length≤281474976710656 then some (.tuple [.int .i64 (atoiN s),.any],M) else none
 |_,_=>none
theorem atois {args:List AVal} {M:AMem} {x:AVal×AMem} (h:pAtoi args M=some x):SoundCall Tryz.prog 58 args M x:=by
 unfold pAtoi at h
 split at h
 ·rename_i s
  split at h
  ·rename_i hs
   injection h with h; subst h
   refine sound_below fun j w vs hr hG hl hv=>?_
   obtain ⟨u,rfl⟩:=one_arg hl
   obtain rfl:=(hv 0 _ u rfl rfl).str_inv
   have hsz:(bs s).size=s.length:=bs_size s
   have rep:∀(w':World) (n:Int) (v:Value),n=atoiN s→Rep j M w' (.tuple [.int .i64 (atoiN s),.any]) (.tuple #[.int .i64 n,v]):=fun w' n v hn=>by
    subst hn
    refine .tuple rfl fun i c u hc hu=>?_
    match i with
    |0=>cases hc; cases hu; exact .plain (.int _ _)
    |1=>cases hc; exact .any _
    |i+2=>cases hc
   have hd:(bs s).data.toList=s:=by simp [bs]
   rcases ha:Lib.atoiAll s with v|_|_
   ·skip
    refine (Tryz.strconv_Atoi_ok (bs s) (by omega) v (by rw [hd]; exact ha) w).mono ?_
    rintro e w' ⟨rfl,hw⟩
    refine ⟨_,rfl,?_,rep w' v _ (by simp [atoiN,ha])⟩
    rcases hw with rfl|⟨t,rfl⟩
    ·exact Below.refl _ _
    ·exact Lib.bytesWorld_below _ _ _
   ·skip
    obtain ⟨ev,h1,h2⟩:=errG hG 1 (.inl rfl)
    refine (Tryz.strconv_Atoi_syntax (bs s) (by omega) (by rw [hd]; exact ha) ev w h1 h2).mono ?_
    rintro e w' ⟨N,rfl,_,_,hb⟩
    exact ⟨_,rfl,hb,rep w' 0 _ (by simp [atoiN,ha])⟩
   ·skip
    obtain ⟨ev,h1,h2⟩:=errG hG 2 (.inr rfl)
    refine (Tryz.strconv_Atoi_range (bs s) (by omega) (by rw [hd]; exact ha) ev w h1 h2).mono ?_
    rintro e w' ⟨N,rfl,_,_,hb⟩
    exact ⟨_,rfl,hb,rep w' _ _ (by simp [atoiN,ha,hd])⟩
  ·cases h
 ·cases h
def pIndexByte:List AVal→AMem→Option (AVal×AMem)
 | [.str s,.int k c],M=>if k = .u8 then some (.int .i64 (Lib.indexByte s c.toNat.toUInt8),M) else none
 |_,_=>none
theorem indexBytes {args:List AVal} {M:AMem} {x:AVal×AMem} (h:pIndexByte args M=some x):SoundCall Tryz.prog 98 args M x:=by
 unfold pIndexByte at h
 split at h
 ·rename_i s k c
  split at h
  ·rename_i hk
   subst hk
   injection h with h; subst h
   refine sound_below fun j w vs hr hG hl hv=>?_
   obtain ⟨l⟩:=vs
   match l,hl with
   | [u1,u2],_ =>
    obtain rfl:=(hv 0 _ u1 rfl rfl).str_inv
    obtain rfl:=(hv 1 _ u2 rfl rfl).int_inv
    refine (Tryz.strings_IndexByte (bs s) c w).mono ?_
    rintro e w' ⟨rfl,rfl⟩
    exact ⟨_,rfl,Below.refl _ _,by simp [bs]; exact .plain (.int _ _)⟩
  ·cases h
 ·cases h
def pCut:List AVal→AMem→Option (AVal×AMem)
 | [.str s,.str sep],M=>if s.length<4294967281 then some (.tuple [.str (Lib.cut s sep).1,.str (Lib.cut s sep).2.1,.bool (Lib.cut s sep).2.2],M) else none
 |_,_=>none
theorem cuts {args:List AVal} {M:AMem} {x:AVal×AMem} (h:pCut args M=some x):SoundCall Tryz.prog 93 args M x:=by
 unfold pCut at h
 split at h
 ·rename_i s sep
  split at h
  ·rename_i hs
   injection h with h; subst h
   refine sound_below fun j w vs hr hG hl hv=>?_
   obtain ⟨l⟩:=vs
   match l,hl with
   | [u1,u2],_ =>
    obtain rfl:=(hv 0 _ u1 rfl rfl).str_inv
    obtain rfl:=(hv 1 _ u2 rfl rfl).str_inv
    obtain ⟨m,hm⟩:=maxLenG hG
    refine (Tryz.strings_Cut (bs s) (bs sep) m w (by rw [bs_size]; exact hs) hm).mono ?_
    rintro e w' ⟨rfl,n,rfl⟩
    refine ⟨_,rfl,below_drewN _ _,.tuple rfl fun i c u hc hu=>?_⟩
    match i with
    |0=>cases hc; cases hu; exact .plain (.str _)
    |1=>cases hc; cases hu; exact .plain (.str _)
    |2=>cases hc; cases hu; exact .plain (.bool _)
    |i+3=>cases hc
  ·cases h
 ·cases h
theorem texts_rep {j:J} {M:AMem} {w:World} {g:Nat} {t:TypeId} (hlt:w.heap.size≤g) (hr:Rel j M w) {w':World} (l:List ByteArray) (hg:w'.heap[g]?=some (.cells (l.map Value.string).toArray t (0,0))) (n c:Nat) (hn:n=l.length) (hc:n≤c) :
  Rep j M w' (.slice .sh (l.map fun b => .str b.data.toList)) (.slice (some ⟨g,0,none⟩) n c):=by
 have hb:∀b:ByteArray,bs b.data.toList=b:=fun b=>by simp [bs]
 refine .plain (.slice _ _ _ _ g 0 1 (fun k => .string ((l[k]?).getD ByteArray.empty)) (by simpa using hn) hc (fun _=>rfl) ?_ ?_ ?_)
 ·intro x hx
  obtain ⟨b,_,rfl⟩:=List.mem_map.1 hx
  rfl
 ·intro i x k c hx hc
  rw [List.getElem?_map] at hx
  obtain ⟨b,hb',rfl⟩:=Option.map_eq_some_iff.1 hx
  match k with
  |0 =>
   simp only [Nat.mul_one,Nat.add_zero,Nat.zero_add,hb',Option.getD_some]
   refine ⟨by simp [World.cell?,hg,hb'],lt_of_block hg,fun id hid hji=>?_,fun hx=>?_⟩
   ·have:=hr.lt id g hid hji; omega
   ·have:=hr.xlt g _ hx; omega
  |k+1=>cases hc
 ·intro i x k c hx hc
  rw [List.getElem?_map] at hx
  obtain ⟨b,hb',rfl⟩:=Option.map_eq_some_iff.1 hx
  match k with
  |0 =>
   cases hc
   simp only [Nat.mul_one,Nat.add_zero,hb',Option.getD_some]
   have:=RepP.str (w:=w') (saf:=Saf j M w') b.data.toList
   rwa [hb] at this
  |k+1=>cases hc
def splitS (s sep:List UInt8):List (List UInt8):=(Lib.splitB (bs sep) 0 (Lib.countB (bs s) (bs sep)) (bs s)).map fun b=>b.data.toList
def pSplitS:List AVal→AMem→Option (AVal×AMem)
 | [.str s,.str sep],M=>if s.length<4294967281∧1≤sep.length then some (.slice .sh ((splitS s sep).map .str),M) else none
 |_,_=>none
theorem splits {args:List AVal} {M:AMem} {x:AVal×AMem} (h:pSplitS args M=some x):SoundCall Tryz.prog 64 args M x:=by
 unfold pSplitS at h
 split at h
 ·rename_i s sep
  split at h
  ·rename_i hs
   injection h with h; subst h
   refine sound_below fun j w vs hr hG hl hv=>?_
   obtain ⟨l⟩:=vs
   match l,hl with
   | [u1,u2],_ =>
    obtain rfl:=(hv 0 _ u1 rfl rfl).str_inv
    obtain rfl:=(hv 1 _ u2 rfl rfl).str_inv
    obtain ⟨m,hm⟩:=maxLenG hG
    have h1:1≤(bs sep).size:=by rw [bs_size]; exact hs.2
    have hlen:=Lib.splitB_all (bs sep) h1 0 _ (bs s) rfl
    refine (Tryz.strings_Split (bs s) (bs sep) m w (by rw [bs_size]; exact hs.1) hm h1).mono ?_
    rintro e w' ⟨rfl,rfl⟩
    refine ⟨_,rfl,(Below.refl _ w).alloc (Nat.le_refl _) _,?_⟩
    have:=texts_rep (t:=9) (Nat.le_refl _) hr (w':=w.alloc (.cells ((Lib.splitB (bs sep) 0 (Lib.countB (bs s) (bs sep)) (bs s)).map Value.string).toArray 9)) (Lib.splitB (bs sep) 0 (Lib.countB (bs s) (bs sep)) (bs s)) (by show (w.heap.push _)[w.heap.size]?=_; simp) (Lib.countB (bs s) (bs sep)+1) (Lib.countB (bs s) (bs sep)+1) hlen.symm (Nat.le_refl _)
    simpa [splitS,List.map_map,Function.comp_def] using this
  ·cases h
 ·cases h
def strsOf:List AVal→Option (List (List UInt8))
 | []=>some []
 | .str s::r=>obind (strsOf r) fun l=>some (s::l)
 |_=>none
theorem strsOf_eq:∀ {xs:List AVal} {l:List (List UInt8)},strsOf xs=some l→xs=l.map .str
 | [],l,h=>by cases h; rfl
 |x::r,l,h=>by
  unfold strsOf at h
  split at h
  ·rename_i e; cases e
  ·rename_i s r' e
   injection e with e1 e2; subst e1; subst e2
   obtain ⟨l',h1,h2⟩:=obind_inv h
   injection h2 with h2; subst h2
   rw [strsOf_eq h1]; rfl
  ·cases h
def pJoin:List AVal→AMem→Option (AVal×AMem)
 | [.slice _ xs,.str sep],M=>obind (strsOf xs) fun l=>if l.length≤140737488355328∧(Lib.join l sep).length≤140737488355328 then some (.str (Lib.join l sep),M) else none
 |_,_=>none
theorem joins {args:List AVal} {M:AMem} {x:AVal×AMem} (h:pJoin args M=some x):SoundCall Tryz.prog 48 args M x:=by
 unfold pJoin at h
 split at h
 ·rename_i tk xs sep
  obtain ⟨l,hl0,h⟩:=obind_inv h
  have hxs:=strsOf_eq hl0
  split at h
  ·rename_i hs
   injection h with h; subst h
   refine sound_below fun j w vs hr hG hl hv=>?_
   obtain ⟨us⟩:=vs
   match us,hl with
   | [u1,u2],_ =>
    obtain ⟨A,cap,b,off,sz,vs,e1,e2,e3,e4,e5,e6⟩:=(hv 0 _ u1 rfl rfl).slice_inv.slice_inv
    obtain rfl:=(hv 1 _ u2 rfl rfl).str_inv
    subst e1
    subst hxs
    cases l with
    |nil =>
     refine (Tryz.strings_Join_none A cap (bs sep) w).mono ?_
     rintro e w' ⟨rfl,rfl⟩
     exact ⟨_,rfl,Below.refl _ _,.plain (.str _)⟩
    |cons s0 l =>
     obtain rfl:=e3 (by simp)
     have hsz:sz=1:=(e4 (.str s0) (by simp)).symm
     subst hsz
     have cell:∀(q:Nat) (s:List UInt8),(s0::l)[q]?=some s→w.cell? ⟨b,off+q,none⟩=some (.string (bs s)):=fun q s hq=>by
      have hq':((s0::l).map AVal.str)[q]?=some (.str s):=by rw [List.getElem?_map,hq]; rfl
      have k1:=e5 q _ 0 (.str s) hq' rfl
      have k2:=(Rep.plain (j:=j) (M:=M) (e6 q _ 0 (.str s) hq' rfl)).str_inv
      simp only [Nat.mul_one,Nat.add_zero] at k1 k2
      rw [k1.1,k2]
     have hmap:((s0::l).map bs).map (·.data.toList)=s0::l:=by
      rw [List.map_map]; conv=>rhs; rw [←List.map_id (s0::l)]
      exact List.map_congr_left fun s _=>by simp [bs]
     have hd:(bs sep).data.toList=sep:=by simp [bs]
     have hb:b<w.heap.size:=by
      have:=cell 0 s0 rfl
      rcases Nat.lt_or_ge b w.heap.size with h|h
      ·exact h
      ·simp [World.cell?,Array.getElem?_eq_none h] at this
     have hJ:=Tryz.strings_Join b off cap ((s0::l).map bs) (bs sep) w (fun q x hq=>by
      rw [List.getElem?_map,Option.map_eq_some_iff] at hq
      obtain ⟨s,hs,rfl⟩:=hq
      exact cell q s hs) hb (by simpa using hs.1) (by simpa using e2) (by rw [hmap,hd]; exact hs.2)
     rw [hmap,hd] at hJ
     have:((s0::l).map bs).length=((s0::l).map AVal.str).length:=by simp
     rw [this] at hJ
     refine hJ.mono ?_
     rintro e w' ⟨rfl,hb⟩
     exact ⟨_,rfl,hb,.plain (.str _)⟩
  ·cases h
 ·cases h
end Go.Proofs.YtannopdcbocngaaGreatDoor
namespace Go.Proofs.YtannopdcbocngaaGreatDoor
open Go Go.Abs Go.RowKit Go.Shelf
def SeqStopsC {α:Type} (b0:Nat) (F:Fence) (n:Nat) (P:Program) (g:Nat) (lb:Array Value) (encs:α→Array Value) (Kp:World→World→Prop) (S Sp:List α→Prop) (N:Nat) (w:World):Prop :=
 ∀(l:Nat) (J Jx:List α→World→Prop) (W:World),Below w.heap.size w W→AbidesFrom W.heap.size J→AbidesFrom W.heap.size Jx→(∀s A v,J s A→J s (A.setCell ⟨b0,0,none⟩ v)) →
  (∀pre x W1,J pre W1→pre.length<N→YieldAt F (n-1) P l (encs x) W1 fun e W' =>
   (e = .returned (.bool true)∧J (pre++[x]) W'∧Kp W1 W')∨(e = .returned (.bool false)∧Jx (pre++[x]) W')) →
  J [] W →
  CallsIn F n P g (#[.func (.yield l) #[] #[]]++lb) W fun e W'=>(∃v,e = .returned v)∧((∃xs,S xs∧J xs W')∨(∃pre,Sp pre∧Jx pre W'))
theorem wpIn_rangeFunc_ownC {F:Fence} {n:Nat} {P:Program} {b0:Nat} {α:Type} {g:Operand} {ps:Array Tmp} {assign body:Code} {Q:Exit→Act→World→Prop} {a:Act} {w:World} (hb0w:b0<w.heap.size)
  (hro:F.round=none) (h1:1≤n) {gf:Nat} {lb:Array Value} (hg:a.eval g = .func (.func gf) #[] lb) (hFg:F.fn gf) (eg:∀args w,(callFunc gf args).run P w = .ok (.enter gf args) w)
  {encs:α→Array Value} {Kp:World→World→Prop} {S Sp:List α→Prop} {N:Nat} {w0:World} (hseq:SeqStopsC b0 F (n-1) P gf lb encs Kp S Sp N w0)
  (hKt:∀ {A B C:World},Kp A B→Kp B C→Kp A C) (hKb:∀(W:World) (l:Nat) (o o':Obj),w.heap.size≤l→W.heap[l]?=some o→o.isCells=false→o.isWalk=false→Kp W (W.putObj l o')) (hb0:Below w0.heap.size w0 w) (hps:∀x,(encs x).size=ps.size)
  (I:List α→World→Prop) (Ix:Code→List α→World→Prop) (hI:OwnFrom w.heap.size I) (hIx:∀c,OwnFrom w.heap.size (Ix c)) (hIc:∀s A v,I s A→I s (A.setCell ⟨b0,0,none⟩ v)) (h0:I [] w) (a₁:α→Act)
  (hassign:∀(l:Nat) (x:α) (W:World) (K:Act→World→Prop),K (a₁ x) W →
   assign.wpIn (F.inRound l) (n-1-1) P (Exit.then K (fun _ _ _=>False)) { tmps:=(ps.zip (encs x)).foldl (fun t (p,v)=>t.setIfInBounds p v) a.tmps,defers:=[] } W)
  (hbody:∀(l:Nat) (pre:List α) (x:α) (W:World),I pre W→pre.length<N→body.wpIn (F.inRound l) (n-1-1) P (ownPostK Kp I Ix (pre++[x]) W) (a₁ x) W)
  (hdone:∀(D:Nat) (xs:List α) (W:World),w.heap.size≤D→S xs→I xs W→W.heap[D]?=some (.deferred (some []))→Q .normal { a with defers:={ target := .collected D,args := #[] }::a.defers } W)
  (hstop:∀(D:Nat) (c:Code) (pre:List α) (W:World),w.heap.size≤D→Sp pre→Ix c pre W→W.heap[D]?=some (.deferred (some []))→c.wpIn F n P Q { a with defers:={ target := .collected D,args := #[] }::a.defers } W) :
  (Code.rangeFunc g ps assign body).wpIn F n P Q a w:=by
 refine wpIn_rangeFunc ?_
 intro fn hfn
 rw [hro]
 obtain ⟨rec,hrec⟩:∃rec:LoopState→Option Code→Loop,rec=fun st pe=>{ state:=st,pending:=pe,fn,tmps:=a.tmps,params:=ps,assign,body,defers:=w.heap.size }:=⟨_,rfl⟩
 obtain ⟨W1,hW1⟩:∃W1,(w.alloc (.deferred (some []))).alloc (.loop (rec .ready none))=W1:=⟨_,rfl⟩
 have hL1:W1.heap[w.heap.size+1]?=some (.loop (rec .ready none)):=by
  rw [←hW1]; have:=World.alloc_heap_new (w.alloc (.deferred (some []))) (.loop (rec .ready none)); rwa [World.size_alloc] at this
 have hK1:W1.heap[w.heap.size]?=some (.deferred (some [])):=by
  rw [←hW1]; exact (Below.heap_alloc _ _ _ (by simp)).trans (World.alloc_heap_new w _)
 have hI1:I [] W1:=by rw [←hW1]; exact hI.alloc _ (hI.alloc _ h0)
 have hb1:Below w0.heap.size w0 W1:=by
  rw [←hW1]; exact hb0.trans ((((Below.refl _ w).alloc (Nat.le_refl _) _).alloc (by simp) _).mono hb0.size)
 refine ⟨w.heap.size+1,[{ target := .collected w.heap.size,args := #[] }],W1,{ target := .fn (.func gf) lb,args := #[.func (.yield (w.heap.size+1)) #[] #[]] },W1,gf,
  #[.func (.yield (w.heap.size+1)) #[] #[]]++lb,W1,?_,?_,?_,?_,fun _=>h1,?_⟩
 ·rw [←hW1,hrec]; exact run_enterLoop_outer _ _ _ _ _
 ·simp only [resolve,hg]
  simp [go_sem]
 ·intro f' hf'; simp [Target.leads] at hf'; subst hf'; exact hFg
 ·simp [invoke,go_sem,eg]
 ·have hnw:∀ {A B:World} {row:Option Nat},(∀r,row=some r→W1.heap.size≤r∧∃o:Obj,A.heap[r]?=some o∧o.isWalk=true)→(∀r,row=some r→w.heap.size≤r∧∃o:Obj,A.heap[r]?=some o∧o.isCells=false) :=
   fun hr r e=>by obtain ⟨hB,o,ho,hw⟩:=hr r e; exact ⟨by rw [←hW1] at hB; simp at hB; omega,o,ho,Obj.not_cells_of_walk hw⟩
  refine (hseq (w.heap.size+1)
   (fun pre W=>I pre W∧W.heap[w.heap.size+1]?=some (.loop (rec .ready none))∧W.heap[w.heap.size]?=some (.deferred (some [])))
   (fun pre W=>∃c,Ix c pre W∧W.heap[w.heap.size+1]?=some (.loop (rec .done (some c)))∧W.heap[w.heap.size]?=some (.deferred (some [])))
   W1 hb1
   (fun s A B row hs hg' hr=>⟨hI s A B row hs.1 hg' (hnw (B:=B) hr),(grownBy_keeps hg' (fun r e=>(hr r e).2) hs.2.1 rfl).trans hs.2.1,(grownBy_keeps hg' (fun r e=>(hr r e).2) hs.2.2 rfl).trans hs.2.2⟩)
   (fun s A B row hs hg' hr=>by
    obtain ⟨c,hc,hl,hk⟩:=hs
    exact ⟨c,hIx c s A B row hc hg' (hnw (B:=B) hr),(grownBy_keeps hg' (fun r e=>(hr r e).2) hl rfl).trans hl,(grownBy_keeps hg' (fun r e=>(hr r e).2) hk rfl).trans hk⟩)
   (fun s A v hs=>⟨hIc s A v hs.1,(Below.heap_setCell _ _ _ _ (by show _≠b0; omega)).trans hs.2.1,(Below.heap_setCell _ _ _ _ (by show _≠b0; omega)).trans hs.2.2⟩)
   ?_ ⟨hI1,hL1,hK1⟩).mono ?_
  ·rintro pre x W ⟨hi,hl,hk⟩ hlen
   have hlt:w.heap.size+1<W.heap.size:=(Array.getElem?_eq_some_iff.1 hl).1
   have hy:=run_yield (P:=P) (args:=encs x) hl (by rw [hrec]; exact hps x)
   rw [hrec] at hy
   refine ⟨fn,_,assign,body,hy,roundIn_of_wpIn hfn (hassign _ x W _ ⟨_,run_beginRound hl (by rw [hrec]),?_⟩)⟩
   have hl2:(W.putObj (w.heap.size+1) (.loop { rec .ready none with state := .busy })).heap[w.heap.size+1]?=some (.loop { rec .ready none with state := .busy }):=World.putObj_heap_same hlt
   have hk2:(W.putObj (w.heap.size+1) (.loop { rec .ready none with state := .busy })).heap[w.heap.size]?=some (.deferred (some [])):=(World.putObj_heap_other (by omega)).trans hk
   have hw2:Kp W (W.putObj (w.heap.size+1) (.loop { rec .ready none with state := .busy })):=hKb _ _ _ _ (by omega) hl rfl rfl
   refine wpIn_mono (hbody _ pre x _ (hI.putObj _ hi (by omega) hl rfl) hlen) ?_
   have fin:∀(jump:Option Code) (W3:World),KeepsOthers (W.putObj (w.heap.size+1) (.loop { rec .ready none with state := .busy })) W3 →
     (Instr.endRound (w.heap.size+1) jump).run P W3 = .ok (.bool jump.isNone) (W3.putObj (w.heap.size+1) (.loop (rec (if jump.isNone then .ready else .done) jump))) ∧
     W3.heap[w.heap.size+1]?=some (.loop { rec .ready none with state := .busy }) ∧
     (W3.putObj (w.heap.size+1) (.loop (rec (if jump.isNone then .ready else .done) jump))).heap[w.heap.size+1]?=some (.loop (rec (if jump.isNone then .ready else .done) jump)) ∧
     (W3.putObj (w.heap.size+1) (.loop (rec (if jump.isNone then .ready else .done) jump))).heap[w.heap.size]?=some (.deferred (some [])):=fun jump W3 hk3=>by
    have hl3:=hk3.same _ _ hl2 rfl
    have:=run_endRound (P:=P) jump hl3
    rw [hrec] at this ⊢
    exact ⟨this,by rw [hrec] at hl3; exact hl3,World.putObj_heap_same (Array.getElem?_eq_some_iff.1 hl3).1,(World.putObj_heap_other (by omega)).trans (hk3.same _ _ hk2 rfl)⟩
   rintro e a3 W3 hp
   cases e with
   |normal =>
    obtain ⟨hk3,hkp3,hi3⟩:=hp
    obtain ⟨hr,hl3,hl4,hk4⟩:=fin none W3 hk3
    exact ⟨_,_,hr,.inl ⟨rfl,⟨hI.putObj _ hi3 (by omega) hl3 rfl,hl4,hk4⟩,hKt (hKt hw2 hkp3) (hKb _ _ _ _ (by omega) hl3 rfl rfl)⟩⟩
   |ret =>
    obtain ⟨hk3,hi3⟩:=hp
    obtain ⟨hr,hl3,hl4,hk4⟩:=fin (some .ret) W3 hk3
    exact ⟨_,_,hr,.inr ⟨rfl,.ret,(hIx _).putObj _ hi3 (by omega) hl3 rfl,hl4,hk4⟩⟩
   |exit id =>
    obtain ⟨hk3,hi3⟩:=hp
    obtain ⟨hr,hl3,hl4,hk4⟩:=fin (some (.exit id)) W3 hk3
    exact ⟨_,_,hr,.inr ⟨rfl,.exit id,(hIx _).putObj _ hi3 (by omega) hl3 rfl,hl4,hk4⟩⟩
   |goto t =>
    obtain ⟨hk3,hi3⟩:=hp
    obtain ⟨hr,hl3,hl4,hk4⟩:=fin (some (.goto t)) W3 hk3
    exact ⟨_,_,hr,.inr ⟨rfl,.goto t,(hIx _).putObj _ hi3 (by omega) hl3 rfl,hl4,hk4⟩⟩
   |panic ch=>exact hp.elim
   |outgrown=>exact hp.elim
  ·rintro e W2 ⟨⟨v,rfl⟩,(⟨xs,hS,hi,hl,hk⟩|⟨pre,hSp,c,hi,hl,hk⟩)⟩
   ·exact ⟨none,_,by have:=run_endLoop (P:=P) hl (by rw [hrec]; simp); rw [hrec] at this; exact this,hdone _ xs _ (Nat.le_refl _) hS (hI.putObj _ hi (by omega) hl rfl) ((World.putObj_heap_other (by omega)).trans hk)⟩
   ·exact ⟨some c,_,by have:=run_endLoop (P:=P) hl (by rw [hrec]; simp); rw [hrec] at this; exact this,hstop _ c pre _ (Nat.le_refl _) hSp ((hIx c).putObj _ hi (by omega) hl rfl) ((World.putObj_heap_other (by omega)).trans hk)⟩
set_option maxHeartbeats 1000000 in
set_option maxRecDepth 100000 in
theorem index139 (a:ByteArray) (c:Int) (w:World) :
  Calls Tryz.prog 139 #[.string a,.int .u8 c] w fun e w'=>e = .returned (.int .i64 (Lib.indexByte a.data.toList c.toNat.toUInt8))∧w'=w:=by
 go_enter Tryz.func139,Tryz.ntmps139
 go_wp2
 rw [run_callFunc_extern Tryz.func168 (by kernel_rfl) (by kernel_rfl) (by kernel_rfl) (e:=Extern.BytealgIndexByte.indexByte) (by kernel_rfl),Lib.run_indexByteString]
 simp only [Result.andThen]
 rw [Oper.upon_value]
 go_wp2
 go_ret
 exact ⟨rfl,rfl⟩
set_option maxHeartbeats 1000000 in
set_option maxRecDepth 100000 in
theorem index162 (a:ByteArray) (w:World) :
  Calls Tryz.prog 162 #[.string a,.string ⟨#[10]⟩] w fun e w'=>e = .returned (.int .i64 (Lib.indexByte a.data.toList 10))∧w'=w:=by
 cases hq:([10]==a.toList) with
 |true =>
  have h1:a.data.toList=[10]:=by
   have:=eq_of_beq hq
   rw [this]; exact (ByteArray.toList_eq a).symm
  go_enter Tryz.func162,Tryz.ntmps162
  go_wp2
  go_ret
  refine ⟨?_,rfl⟩
  rw [h1]; rfl
 |false =>
  go_enter Tryz.func162,Tryz.ntmps162
  go_wp2_with (go_at_call 139; refine (index139 _ _ _).mono ?_; rintro e w' ⟨rfl,rfl⟩)
  go_ret
  exact ⟨rfl,rfl⟩
set_option maxHeartbeats 1000000 in
set_option maxRecDepth 100000 in
theorem index138 (a:ByteArray) (w:World) :
  Calls Tryz.prog 138 #[.string a,.string ⟨#[10]⟩] w fun e w'=>e = .returned (.int .i64 (Lib.indexByte a.data.toList 10))∧w'=w:=by
 go_enter Tryz.func138,Tryz.ntmps138
 go_wp2_with (go_at_call 162; refine (index162 _ _).mono ?_; rintro e w' ⟨rfl,rfl⟩)
 go_ret
 exact ⟨rfl,rfl⟩
end Go.Proofs.YtannopdcbocngaaGreatDoor
namespace Go.Abs
open Go
inductive K where
 |seq (c:ACode)
 |block (id:Nat)
 |loop (live:List Nat) (n:Nat) (c:ACode)
noncomputable def kr (C:CallF) (fn:List ARes) (base:Nat):List K→Out→Option (AVal×AMem)
 | [],o=>finish fn base o
 | .seq c::k,o=>obind (goOn o (aexec C c)) (kr C fn base k)
 | .block id::k,o=>kr C fn base k (outOf id o)
 | .loop live n c::k,o=>obind (goOn o fun e m=>aexec C (.loop live c) (backE n m (keepS e live)) (backM n m)) (kr C fn base k)
noncomputable def exK (C:CallF) (fn:List ARes) (base:Nat) (k:List K) (c:ACode) (env:Env) (M:AMem):Option (AVal×AMem):=obind (aexec C c env M) (kr C fn base k)
noncomputable def opsK (C:CallF) (fn:List ARes) (base:Nat) (k:List K) (live:List Nat) (ops:List AOper) (env:Env) (M:AMem):Option (AVal×AMem) :=
 obind (aregion C ops env M) fun x=>kr C fn base k ⟨.normal,keepS x.1 live,x.2⟩
noncomputable def opK (C:CallF) (fn:List ARes) (base:Nat) (k:List K) (live:List Nat) (dst:Option Nat) (r:List AOper) (env:Env) (y:Option (AVal×AMem)):Option (AVal×AMem) :=
 obind y fun x=>opsK C fn base k live r (putS env dst x.1) x.2
noncomputable def gK (C:CallF) (fn:List ARes) (base:Nat) (k:List K) (live:List Nat) (g:AVal) (want:Bool) (o:AOper) (r:List AOper) (env:Env) (M:AMem):Option (AVal×AMem) :=
 match g with
 | .bool b=>oif (b==want) (opK C fn base k live o.dst r env (astep C o env M)) (opsK C fn base k live r (putS env o.dst (.tuple [])) M)
 | .tuple []=>opsK C fn base k live r (putS env o.dst (.tuple [])) M
 |_=>none
noncomputable def forkK (C:CallF) (fn:List ARes) (base:Nat) (k:List K) (v:AVal) (x y:ACode) (env:Env) (M:AMem):Option (AVal×AMem) :=
 match v with
 | .bool t=>oif t (exK C fn base k x env M) (exK C fn base k y env M)
 |_=>none
theorem obind_assoc {α β γ:Type} (x:Option α) (f:α→Option β) (g:β→Option γ):obind (obind x f) g=obind x fun a=>obind (f a) g:=by cases x<;>rfl
section
variable (C:CallF) (fn:List ARes) (base:Nat) (k:List K) (env:Env) (M:AMem)
theorem exK_skip:exK C fn base k .skip env M=kr C fn base k ⟨.normal,env,M⟩:=rfl
theorem exK_exit (id:Nat):exK C fn base k (.exit id) env M=kr C fn base k ⟨.exit id,env,M⟩:=rfl
theorem exK_ret:exK C fn base k .ret env M=kr C fn base k ⟨.ret,env,M⟩:=rfl
theorem exK_seq (a b:ACode):exK C fn base k (.seq a b) env M=exK C fn base (.seq b::k) a env M:=by
 unfold exK
 rw [aexec,obind_assoc]
 rfl
theorem exK_block (id:Nat) (c:ACode):exK C fn base k (.block id c) env M=exK C fn base (.block id::k) c env M:=by
 unfold exK
 rw [aexec,obind_assoc]
 rfl
theorem exK_cond (c:Opd) (x y:ACode):exK C fn base k (.cond c x y) env M=forkK C fn base k (c.ev env) x y env M:=by
 unfold exK forkK
 rw [aexec]
 cases c.ev env<;>simp [exK]
theorem exK_region (ops:List AOper) (d:Bool) (live:List Nat):exK C fn base k (.region ops d live) env M=opsK C fn base k live ops env M:=by
 unfold exK opsK
 rw [aexec,obind_assoc]
 rfl
theorem exK_loop (live:List Nat) (c:ACode):exK C fn base k (.loop live c) env M=exK C fn base (.loop live M.length c::k) c (keepS env live) M:=by
 unfold exK
 rw [aexec_loop,obind_assoc]
 rfl
theorem opsK_nil (live:List Nat):opsK C fn base k live [] env M=kr C fn base k ⟨.normal,keepS env live,M⟩:=rfl
theorem opsK_none (live:List Nat) (d:Option Nat) (op:AOp) (g m:Bool) (s:List Nat) (r:List AOper) :
  opsK C fn base k live (⟨d,op,none,g,m,s⟩::r) env M=opK C fn base k live d r env (astep C ⟨d,op,none,g,m,s⟩ env M):=by
 unfold opsK opK
 rw [aregion,obind_assoc]
 rfl
theorem opsK_some (live:List Nat) (d:Option Nat) (op:AOp) (t:Nat) (w g m:Bool) (s:List Nat) (r:List AOper) :
  opsK C fn base k live (⟨d,op,some (t,w),g,m,s⟩::r) env M=gK C fn base k live (getS env t) w ⟨d,op,some (t,w),g,m,s⟩ r env M:=by
 unfold opsK gK
 rw [aregion]
 simp only
 generalize getS env t=v
 split
 ·rw [obind_oif,obind_assoc]; rfl
 ·rfl
 ·rename_i h1 h2
  first
   |rfl
   |(split
     ·rename_i b; exact absurd rfl (h1 b)
     ·exact absurd rfl h2
     ·rfl)
theorem opK_some (live:List Nat) (d:Option Nat) (r:List AOper) (v:AVal) (M':AMem):opK C fn base k live d r env (some (v,M'))=opsK C fn base k live r (putS env d v) M':=rfl
theorem gK_tt (live:List Nat) (o:AOper) (r:List AOper):gK C fn base k live (.bool true) true o r env M=opK C fn base k live o.dst r env (astep C o env M):=rfl
theorem gK_ff (live:List Nat) (o:AOper) (r:List AOper):gK C fn base k live (.bool false) false o r env M=opK C fn base k live o.dst r env (astep C o env M):=rfl
theorem gK_tf (live:List Nat) (o:AOper) (r:List AOper):gK C fn base k live (.bool true) false o r env M=opsK C fn base k live r (putS env o.dst (.tuple [])) M:=rfl
theorem gK_ft (live:List Nat) (o:AOper) (r:List AOper):gK C fn base k live (.bool false) true o r env M=opsK C fn base k live r (putS env o.dst (.tuple [])) M:=rfl
theorem gK_un (live:List Nat) (w:Bool) (o:AOper) (r:List AOper):gK C fn base k live (.tuple []) w o r env M=opsK C fn base k live r (putS env o.dst (.tuple [])) M:=rfl
theorem forkK_t (x y:ACode):forkK C fn base k (.bool true) x y env M=exK C fn base k x env M:=rfl
theorem forkK_f (x y:ACode):forkK C fn base k (.bool false) x y env M=exK C fn base k y env M:=rfl
theorem kr_seq (c:ACode):kr C fn base (.seq c::k) ⟨.normal,env,M⟩=exK C fn base k c env M:=rfl
theorem kr_seq_exit (c:ACode) (i:Nat):kr C fn base (.seq c::k) ⟨.exit i,env,M⟩=kr C fn base k ⟨.exit i,env,M⟩:=rfl
theorem kr_seq_ret (c:ACode):kr C fn base (.seq c::k) ⟨.ret,env,M⟩=kr C fn base k ⟨.ret,env,M⟩:=rfl
theorem kr_block (id:Nat):kr C fn base (.block id::k) ⟨.normal,env,M⟩=kr C fn base k ⟨.normal,env,M⟩:=rfl
theorem kr_block_exit (id i:Nat):kr C fn base (.block id::k) ⟨.exit i,env,M⟩=if i=id then kr C fn base k ⟨.normal,env,M⟩ else kr C fn base k ⟨.exit i,env,M⟩:=by
 rw [kr]; simp only [outOf]; split<;>rfl
theorem kr_block_ret (id:Nat):kr C fn base (.block id::k) ⟨.ret,env,M⟩=kr C fn base k ⟨.ret,env,M⟩:=rfl
theorem kr_loop (live:List Nat) (n:Nat) (c:ACode):kr C fn base (.loop live n c::k) ⟨.normal,env,M⟩=exK C fn base k (.loop live c) (backE n M (keepS env live)) (backM n M):=rfl
theorem kr_loop_exit (live:List Nat) (n:Nat) (c:ACode) (i:Nat):kr C fn base (.loop live n c::k) ⟨.exit i,env,M⟩=kr C fn base k ⟨.exit i,env,M⟩:=rfl
theorem kr_loop_ret (live:List Nat) (n:Nat) (c:ACode):kr C fn base (.loop live n c::k) ⟨.ret,env,M⟩=kr C fn base k ⟨.ret,env,M⟩:=rfl
theorem kr_nil (o:Out):kr C fn base [] o=finish fn base o:=rfl
end
theorem exK_head {q body:ACode} (h:q=body) (C:CallF) (fn:List ARes) (base:Nat) (k:List K) (env:Env) (M:AMem):exK C fn base k q env M=exK C fn base k body env M:=by rw [h]
theorem acall_ex {T:Tab} {f:Nat} {fn:AFn} {args:List AVal} {M:AMem} {x:AVal×AMem} (hp:T.prim f=none) (hc:T.code f=some fn) (hl:args.length=fn.nparams)
  (h:exK (acall T) fn.results M.length [] fn.body (parsFrom 0 args) M=some x):acall T f args M=some x :=
 acall_body hp hc hl (by
  unfold exK at h
  obtain ⟨o,h1,h2⟩:=obind_inv h
  rw [h1]; exact h2)
end Go.Abs
