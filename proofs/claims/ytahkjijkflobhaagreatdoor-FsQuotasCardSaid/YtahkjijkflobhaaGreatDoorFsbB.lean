import Derived.Laws.StructEq
import Derived.MapKept
import Derived.Laws.IdiomStrings
import Derived.Laws.MakeOwn
import Derived.ChangeKeysEq
import Derived.Lib.AppendZerosOnto
import Derived.RangeFuncCalls
import Derived.OrdersIn
import Derived.LoopNIn
import Derived.Test.YtahkjijkflobhaaGreatDoorFsbA
set_option linter.unusedSimpArgs false
set_option linter.unusedVariables false
set_option linter.unusedSectionVars false
set_option linter.defProp false
namespace Go.Abs
section
open Go Go.RowKit
variable [dQ]
def bQ.uO {j:J} {M:ag} {w:World} {xs:List ae} {v:Value} (h:bQ j M w (.slice .c0 xs) v):∃A,v = .slice A 0 0:=by
 cases h with
 |plain h=>cases h
 |c0 A=>exact ⟨A,rfl⟩
def bQ.DV {j:J} {M:ag} {w:World} {k:Nat} {xs:List ae} {v:Value} (h:bQ j M w (.slice (.own k) xs) v) :
  ∃sz n,M[k]?=some (.tick sz n)/\xs.length<=n/\bF w (fJ j M w) (.slice .sh xs) v/\(xs.length=n->zi j w k sz n v):=by
 cases h with
 |plain h=>cases h
 |own hk hn h ht=>exact ⟨_,_,hk,hn,h,ht⟩
def wY (n:Nat):∀(r c:Nat),c<=2*n+1000->Builtin.growBy n r c<=2*n+1000
 |0,c,h=>h
 |r+1,c,h=>by
  unfold Builtin.growBy
  split
  ·exact h
  ·exact wY n r _ (by omega)
def vC {n c:Nat} (h:c<n):Builtin.nextslicecap n c<=2*n+1000:=by
 unfold Builtin.nextslicecap
 split
 ·omega
 ·split
  ·omega
  ·exact wY n 4 c (by omega)
def bF.one {w:World} {cu:Nat->Nat->Prop} {c:ae} {v:Value} (h:bF w cu c v):v.oneCell'=true:=by
 cases h<;>first|rfl|assumption
section
variable {P:Program} {C:bt} {o:Oper} {env:Env} {M:ag} {j:J} {w:World} {a:Act} {x:ae×ag}
def sf {cu:Nat->Nat->Prop} {xs:List ae} {v:Value} {size:Nat} (hx:bF w cu (.slice .sh xs) v) (hw:wid xs size) (hpos:0<size) :
  ∃u:Nat->Value,(∀w':World,w'.heap=w.heap->(Builtin.firstCells size xs.length v).run P w' = .ok (((List.range (xs.length*size)).map u).toArray) w') /\
   (∀(i:Nat) (y:ae) (k:Nat) (c:ae),xs[i]?=some y->y.cells[k]?=some c->bF w cu c (u (i*size+k))) /\
   ∀b,(∃n cap,v = .slice (some ⟨b,0,none⟩) n cap)->∀p,p<xs.length*size->w.cell? ⟨b,p,none⟩=some (u p):=by
 obtain ⟨A,cap,b,off,sz,vs,hv,hc,ha,hz,hs,hr⟩:=hx.bg
 by_cases hne:xs=[]
 ·subst hne
  refine ⟨vs,fun w' _=>?_,fun i y k c h=>by simp at h,fun b _ p hp=>by simp at hp⟩
  rw [hv]
  cases A with
  |none=>simp [Builtin.firstCells]
  |some ad=>simp [Builtin.firstCells,loadCells,loadCellsFrom]
 ·have hsz:sz=size:=by
   obtain ⟨y,r,rfl⟩:=List.exists_cons_of_ne_nil hne
   rw [<-hz y (by simp),hw y (by simp)]
  subst hsz
  have hA:=ha hne
  subst hA
  have hcell:∀p,p<xs.length*sz->w.cell? ⟨b,off+p,none⟩=some (vs p):=by
   intro p hp
   have hd:p / sz<xs.length:=(Nat.div_lt_iff_lt_mul hpos).2 hp
   have hm:p % sz<sz:=Nat.mod_lt _ hpos
   have hy:=List.getElem?_eq_getElem hd
   have hcl:=hw _ (List.getElem_mem hd)
   have:=(hs (p / sz) _ (p % sz) _ hy (List.getElem?_eq_getElem (by omega))).1
   rw [Nat.div_add_mod'] at this
   exact this
  refine ⟨vs,fun w' hw'=>?_,hr,fun b' hb' p hp=>?_⟩
  ·rw [hv]
   have hc':∀p,p<xs.length*sz->w'.cell? ⟨b,off+p,none⟩=some (vs p):=fun p hp=>by
    have:=hcell p hp
    simp only [World.cell?,hw'] at this ⊢
    exact this
   exact ij (P:=P) b off (xs.length*sz) vs hc'
  ·obtain ⟨n,cap',e⟩:=hb'
   rw [hv] at e
   injection e with e
   injection e with e
   injection e with e1 e2
   subst e1; subst e2
   simpa using hcell p hp
def bF.join {w':World} {saf':Nat->Nat->Prop} {xs ys:List ae} {size:Nat} (hwx:wid xs size) (hwy:wid ys size) (hpos:0<size) {ux uy:Nat->Value}
  (hx:∀(i:Nat) (y:ae) (k:Nat) (c:ae),xs[i]?=some y->y.cells[k]?=some c->bF w' saf' c (ux (i*size+k)))
  (hy:∀(i:Nat) (y:ae) (k:Nat) (c:ae),ys[i]?=some y->y.cells[k]?=some c->bF w' saf' c (uy (i*size+k)))
  {b:Nat} {arr:Array Value} {t:TypeId} (harr:w'.heap[b]?=some (.cells arr t (0,0))) (h1:∀p,p<xs.length*size->arr[p]?=some (ux p)) (h2:∀p,p<ys.length*size->arr[xs.length*size+p]?=some (uy p))
  (hs:∀p,p<(xs.length+ys.length)*size->saf' b p) {cap:Nat} (hc:xs.length+ys.length<=cap):bF w' saf' (.slice .sh (xs++ys)) (.slice (some ⟨b,0,none⟩) (xs.length+ys.length) cap):=by
 have hlt:∀(i k n:Nat),i<n->k<size->i*size+k<n*size:=by
  intro i k n hi hk
  have:(i+1)*size<=n*size:=Nat.mul_le_mul_right _ hi
  rw [Nat.succ_mul] at this
  omega
 have cas:∀(i:Nat) (y:ae),(xs++ys)[i]?=some y->(i<xs.length/\xs[i]?=some y)\/(∃i',i=xs.length+i'/\ys[i']?=some y):=by
  intro i y h
  rcases Nat.lt_or_ge i xs.length with hi|hi
  ·rw [List.getElem?_append_left hi] at h; exact .inl ⟨hi,h⟩
  ·rw [List.getElem?_append_right hi] at h; exact .inr ⟨i-xs.length,by omega,h⟩
 refine .slice _ _ _ _ b 0 size (fun p=>if p<xs.length*size then ux p else uy (p-xs.length*size)) (by simp) hc (fun _=>rfl) (fun y hy'=>?_) (fun i y k c hi hk=>?_) (fun i y k c hi hk=>?_)
 ·rcases List.mem_append.1 hy' with h|h
  ·exact hwx y h
  ·exact hwy y h
 ·have hkl:=aj hk
  rw [Nat.zero_add]
  rcases cas i y hi with ⟨hil,hxi⟩|⟨i',rfl,hyi⟩
  ·have hk':k<size:=by rw [<-hwx y (List.mem_of_getElem? hxi)]; exact hkl
   have hp:=hlt i k _ hil hk'
   refine ⟨?_,hs _ (hlt i k _ (by omega) hk')⟩
   rw [if_pos hp,<-h1 _ hp]
   simp [World.cell?,harr]
  ·have hk':k<size:=by rw [<-hwy y (List.mem_of_getElem? hyi)]; exact hkl
   have hil:=aj hyi
   have hp:=hlt i' k _ hil hk'
   refine ⟨?_,hs _ (hlt _ k _ (by omega) hk')⟩
   have he:(xs.length+i')*size+k=xs.length*size+(i'*size+k):=by rw [Nat.add_mul]; omega
   rw [he,if_neg (by omega),Nat.add_sub_cancel_left,<-h2 _ hp]
   simp [World.cell?,harr]
 ·have hkl:=aj hk
  rcases cas i y hi with ⟨hil,hxi⟩|⟨i',rfl,hyi⟩
  ·have hk':k<size:=by rw [<-hwx y (List.mem_of_getElem? hxi)]; exact hkl
   rw [if_pos (hlt i k _ hil hk')]
   exact hx i y k c hxi hk
  ·have he:(xs.length+i')*size+k=xs.length*size+(i'*size+k):=by rw [Nat.add_mul]; omega
   rw [he,if_neg (by omega),Nat.add_sub_cancel_left]
   exact hy i' y k c hyi hk
def pP {t t' e:TypeId} {d':TypeDesc} {v':Value} {i:TypeInfo} {zv:Value} (hs:P.underlying t=some (.slice e)) (hs':P.underlying t'=some d') (hd':∀k,d' ≠ .int k) (hi:P.info? e=some i) (hz:i.zero=some zv) (hb0:0<i.bytes) (hb1:i.bytes<=2 ^ 20)
  (ty:TypeId) {base:Option Addr} {n cap m:Nat} {mP new:Array Value} (hlen:∀w':World,(Builtin.lenOf v').run P w' = .ok m w')
  (hold:∀w':World,w'.heap=w.heap->(Builtin.firstCells i.size n (.slice base n cap)).run P w' = .ok mP w') (dH:∀w':World,w'.heap=w.heap->(Builtin.firstCells i.size m v').run P w' = .ok new w')
  (hroom:(n+m)*i.bytes<=2 ^ 44) :
  (n+m<=cap->∀w',(match base with|some ad=>(storeCells (ad.add (n*i.size)) new.toList).run P w = .ok () w'|none=>w'=w)->(Builtin.append_ #[t,t'] ty #[.slice base n cap,v']).run P w = .ok (.slice base (n+m) cap) w') /\
  (cap<n+m->∃newCap rest,n+m<=newCap/\rest.size=(newCap-(n+m))*zv.cells.size /\
   (Builtin.append_ #[t,t'] ty #[.slice base n cap,v']).run P w = .ok (.slice (some ⟨w.heap.size,0,none⟩) (n+m) newCap) { w with heap:=w.heap.push (.cells (mP++new++rest) e (0,0)),drawn:=w.drawn+1 }):=by
 have hsz:(sizeOf e).run P w = .ok i.size w:=cY (by simp [hZ,hi])
 refine ⟨fun hle w' hst=>?_,fun hlt=>?_⟩
 ·have h1:=dH w rfl
  unfold Builtin.append_
  simp only [List.getElem?_toArray,List.getElem?_cons_zero,List.getElem?_cons_succ,Sem.run_bind,bf hs,bf hs',Result.andThen_ok,hsz,Sem.run_pure]
  simp only [Bool.false_eq_true,if_false,hlen,Result.andThen_ok,Bool.not_false,if_true,if_pos hle,h1,Sem.run_bind,Sem.run_pure]
  cases base with
  |none=>simp only at hst; subst hst; simp
  |some ad=>simp only at hst; simp [hst]
 ·have hcapb:¬Builtin.nextslicecap (n+m) cap*i.bytes>2 ^ 48:=by
   have h1:=vC hlt
   have h2:Builtin.nextslicecap (n+m) cap*i.bytes<=(2*(n+m)+1000)*i.bytes:=Nat.mul_le_mul_right _ h1
   have h3:(2*(n+m)+1000)*i.bytes=2*((n+m)*i.bytes)+1000*i.bytes:=by
    rw [Nat.add_mul,Nat.mul_assoc]
   have h4:1000*i.bytes<=1000*2 ^ 20:=Nat.mul_le_mul_left _ hb1
   have:(2:Nat) ^ 48=16*2 ^ 44:=by decide
   have:1000*2 ^ 20<=2 ^ 44:=by decide
   omega
  let q:Question := .appendCap (n+m) cap e
  refine ⟨q.cut (w.tape w.drawn q),Builtin.zeroCells zv.cells (q.cut (w.tape w.drawn q)-(n+m)),by simp [q,Question.cut],by simp [Builtin.zeroCells],?_⟩
  have h1:=hold w.drew rfl
  have h2:=dH w.drew rfl
  have hne:i.bytes≠0:=by omega
  have hqf:q.forced=false:=rfl
  unfold Builtin.append_
  simp only [List.getElem?_toArray,List.getElem?_cons_zero,List.getElem?_cons_succ,Sem.run_bind,bf hs,bf hs',Result.andThen_ok,hsz,Sem.run_pure]
  simp only [Bool.false_eq_true,if_false,hlen,Result.andThen_ok,Bool.not_false,if_true,if_neg (Nat.not_le.2 hlt),Sem.run_bind,Sem.run_pure]
  simp [gu hi,hne,hcapb,h1,h2,zeroValue,hz,newRow,q,Question.forced]
  rfl
def th (hr:Rel j M w) {c:Call} {y y':Operand} {t t' e:TypeId} {d':TypeDesc} {i:TypeInfo} {zv:Value} (hop:o.op = .call c) (hb:c.callee = .builtin .append) (ha:c.args.toList=[y,y'])
  (hat:c.argTypes = #[t,t']) (hs:P.underlying t=some (.slice e)) (hs':P.underlying t'=some d') (hd':∀k,d' ≠ .int k) (hi:P.info? e=some i) (hz:i.zero=some zv) (hzs:zv.cells.size=i.size) (hpos:0<i.size) (hb0:0<i.bytes) (hb1:i.bytes<=2 ^ 20)
  {tk:Tk} {xs ys:List ae} (r1:bQ j M w (.slice tk xs) (a.eval y)) (hlen:∀w':World,(Builtin.lenOf (a.eval y')).run P w' = .ok ys.length w') {uy:Nat->Value}
  (fy1:∀w':World,w'.heap=w.heap->(Builtin.firstCells i.size ys.length (a.eval y')).run P w' = .ok (((List.range (ys.length*i.size)).map uy).toArray) w')
  (fy2:∀(q:Nat) (y:ae) (k:Nat) (c:ae),ys[q]?=some y->y.cells[k]?=some c->bF w (fJ j M w) c (uy (q*i.size+k)))
  (h:aV (bB (xs.length+ys.length) i.bytes/\wid xs i.size/\wid ys i.size) (
    match tk with
    | .c0=>match xs with|[]=>some (.slice (.own M.length) ys,M++[.tick i.size ys.length])|_=>none
    | .own k=>match nth M k with
     |some (.tick sz' n)=>aV (sz'=i.size/\n=xs.length) (some (.slice (.own k) (xs++ys),cS M k (.tick i.size (xs.length+ys.length))))
     |_=>none
    | .sh=>none)=some x):∃v w' j',im P o a w v w'/\Rel j' x.2 w'/\Ext j M w j' x.2 w'/\bQ j' x.2 w' x.1 v/\(ys=[]->v=a.eval y/\∀k,tk = .own k->j'=j)/\∀k b',tk = .own k->j' k=some b'->j k=some b'\/∃vs,w'.heap[b']?=some (.cells vs e (0,0)):=by
 obtain ⟨⟨hroom,hwx,hwy⟩,h9⟩:=aP h
 clear h
 have h:=h9
 clear h9
 have p1:=r1.bg
 obtain ⟨ux,fx1,fx2,fx3⟩:=sf (P:=P) p1 hwx hpos
 obtain ⟨base,cap,_,_,_,_,hv,hcap,_⟩:=p1.bg
 have ha':c.args = #[y,y']:=by rw [<-ha]
 have hexec:∀r,(Builtin.append_ #[t,t'] o.type #[a.eval y,a.eval y']).run P w=r->(execOp a.eval o).run P w=r.andThen fun v w' => .ok (.value v) w':=by
  intro r hr'
  simp [execOp,hop,resolve,hb,invoke,builtin,ha',hat,hr']
 rw [hv] at fx1
 obtain ⟨A1,A2⟩:=pP (P:=P) (w:=w) hs hs' hd' hi hz hb0 hb1 o.type (base:=base) (n:=xs.length) (cap:=cap) (m:=ys.length) hlen fx1 fy1 hroom
 rw [<-hv] at A1 A2
 -- nothing is appended
 have nil:ys=[]->∃v,(execOp a.eval o).run P w = .ok (.value v) w/\v=a.eval y:=by
  intro hy
  subst hy
  refine ⟨_,?_,rfl⟩
  have:=A1 (by simp; exact hcap) w (by
   cases base with
   |none=>rfl
   |some ad=>simp [storeCells])
  rw [hexec _ this]
  simp [hv]
 -- a new block
 have fresh:cap<xs.length+ys.length->∃newCap arr w',xs.length+ys.length<=newCap/\(execOp a.eval o).run P w = .ok (.value (.slice (some ⟨w.heap.size,0,none⟩) (xs.length+ys.length) newCap)) w' /\
   Quiet w w'/\(∀b,b<w.heap.size->w'.heap[b]?=w.heap[b]?)/\w'.heap[w.heap.size]?=some (.cells arr e (0,0))/\newCap*i.size<=arr.size /\
   (∀p,p<xs.length*i.size->arr[p]?=some (ux p))/\∀p,p<ys.length*i.size->arr[xs.length*i.size+p]?=some (uy p):=by
  intro hlt
  obtain ⟨newCap,rest,h1,h2,h3⟩:=A2 hlt
  obtain ⟨q,hbk,dH⟩:=iH (w:=w) (.cells (((List.range (xs.length*i.size)).map ux).toArray++((List.range (ys.length*i.size)).map uy).toArray++rest) e (0,0))
  refine ⟨newCap,_,{ w with heap:=w.heap.push (.cells (((List.range (xs.length*i.size)).map ux).toArray++((List.range (ys.length*i.size)).map uy).toArray++rest) e (0,0)),drawn:=w.drawn+1 },h1,(hexec _ h3).trans rfl,⟨q.size,rfl,rfl,rfl⟩,hbk,dH,?_,fun p hp=>?_,fun p hp=>?_⟩
  ·simp only [Array.size_append,List.size_toArray,List.length_map,List.length_range,h2,hzs]
   rw [<-Nat.add_mul,<-Nat.add_mul]
   exact Nat.mul_le_mul_right _ (by omega)
  ·rw [Array.append_assoc,Array.getElem?_append_left (by simpa using hp)]
   simp [hp]
  ·rw [Array.append_assoc,Array.getElem?_append_right (by simp),Array.getElem?_append_left (by simp; omega)]
   simp [hp]
 split at h
 ·-- c0
  split at h
  ·injection h with h; subst h
   simp only [List.length_nil,Nat.zero_add] at *
   have hc0:cap=0:=by
    obtain ⟨A',hA'⟩:=r1.uO
    rw [hv] at hA'
    injection hA'
   by_cases hy:ys=[]
   ·subst hy
    obtain ⟨v,h1,h2⟩:=nil rfl
    have q:Quiet w w:=⟨Nat.le_refl _,rfl,rfl,rfl⟩
    refine ⟨v,w,bX j M.length none,.inl h1,hr.push (ob:=none) (fun b h=>by cases h) q (fun _ _=>rfl) (fun h=>by cases h) (fun sz n b h h'=>by cases h'),Ext.push (fun b h=>by cases h) q (fun _ _=>rfl),?_,fun _=>⟨h2,fun _ h=>by cases h⟩,fun _ _ h=>by cases h⟩
    rw [h2,hv,hc0]
    exact .own (sz:=i.size) (n:=0) (by simp) (by simp) (bF.nil _ _ _) fun _ => .inl ⟨by simp [bX],rfl,base,rfl⟩
   ·have hyl:0<ys.length:=List.length_pos_iff.2 hy
    obtain ⟨newCap,arr,w',g1,g2,g3,g4,g5,g6,g7,g8⟩:=fresh (by omega)
    have hob:∀b,some w.heap.size=some b->w.heap.size<=b/\b<w'.heap.size:=fun b hb=>by
     injection hb with hb; subst hb; exact ⟨Nat.le_refl _,lt_of_block g5⟩
    have ext:Ext j M w (bX j M.length (some w.heap.size)) (M++[.tick i.size ys.length]) w':=Ext.push (fun b hb=>(hob b hb).1) g3 g4
    refine ⟨_,w',bX j M.length (some w.heap.size),.inl g2,hr.push hob g3 g4 (fun h=>by cases h) (fun sz n b _ hb=>by injection hb with hb; subst hb; exact ⟨arr,e,g5⟩),ext,?_,fun h=>absurd h hy,fun _ _ h=>by cases h⟩
    have hsaf:∀p,p<(0+ys.length)*i.size->fJ (bX j M.length (some w.heap.size)) (M++[.tick i.size ys.length]) w' w.heap.size p:=by
     intro p hp
     refine ⟨lt_of_block g5,fun id hid hj=>?_,fun hx=>absurd (hr.qo _ _ hx) (Nat.lt_irrefl _)⟩
     by_cases hid':id=M.length
     ·subst hid'; exact ⟨i.size,ys.length,by simp,by simpa using hp⟩
     ·have:=hr.lt id w.heap.size (by simp at hid; omega) (by simpa [bX,hid'] using hj)
      omega
    have hj:=bF.join (xs:=[]) (ys:=ys) (w':=w') hwx hwy hpos (ux:=ux) (uy:=uy) (fun i y k c h=>by simp at h) (fun i y k c h1 h2=>(fy2 i y k c h1 h2).mono ext.cu) g5 (fun p hp=>by simp at hp) (fun p hp=>by simpa using g8 p hp) hsaf (cap:=newCap) (by simpa using g1)
    simp only [List.nil_append,List.length_nil,Nat.zero_add] at hj
    exact .own (sz:=i.size) (n:=ys.length) (by simp) (Nat.le_refl _) hj fun _ => .inr ⟨w.heap.size,newCap,arr,e,by simp [bX],rfl,g5,g6,g1⟩
  ·cases h
 ·-- own
  rename_i k
  rw [bE] at h
  split at h
  ·rename_i sz' n' hMk
   obtain ⟨⟨e1,e2⟩,hx⟩:=aP h
   subst e1
   subst e2
   injection hx with hx
   subst hx
   rw [cd]
   obtain ⟨sz0,n0,hk,hn,hrp,ht⟩:=r1.DV
   ·rw [hMk] at hk
    injection hk with hk; injection hk with e1 e2
    subst e1; subst e2
    by_cases hy:ys=[]
    ·subst hy
     obtain ⟨v,h1,h2⟩:=nil rfl
     have hset:M.set k (.tick i.size (xs.length+([]:List ae).length))=M:=by
      apply List.ext_getElem?
      intro q
      by_cases hq:k=q
      ·subst hq; rw [aU (aj hMk),hMk]; rfl
      ·rw [aH hq]
     rw [h2] at h1
     rw [hset,List.append_nil]
     exact ⟨a.eval y,w,j,.inl h1,hr,Ext.refl j M w,r1,fun _=>⟨rfl,fun _ _=>rfl⟩,fun _ _ _ h => .inl h⟩
    ·have hyl:0<ys.length:=List.length_pos_iff.2 hy
     have moved:cap<xs.length+ys.length->∃v w' j',im P o a w v w'/\Rel j' (M.set k (.tick i.size (xs.length+ys.length))) w'/\Ext j M w j' (M.set k (.tick i.size (xs.length+ys.length))) w'/\bQ j' (M.set k (.tick i.size (xs.length+ys.length))) w' (.slice (.own k) (xs++ys)) v/\(ys=[]->v=a.eval y/\∀k',Tk.own k = .own k'->j'=j)/\∀k' b',Tk.own k = .own k'->j' k'=some b'->j k'=some b'\/∃vs,w'.heap[b']?=some (.cells vs e (0,0)):=by
      intro hlt
      obtain ⟨newCap,arr,w',g1,g2,g3,g4,g5,g6,g7,g8⟩:=fresh hlt
      have ext:Ext j M w (bX j k (some w.heap.size)) (M.set k (.tick i.size (xs.length+ys.length))) w':=Ext.uB hMk g3 g4 (Nat.le_refl _) (by omega)
      refine ⟨_,w',bX j k (some w.heap.size),.inl g2,Rel.uB hMk hr g3 g4 (Nat.le_refl _) g5 (by omega),ext,?_,fun h=>absurd h hy,fun k' b' hk' hb' => .inr ⟨arr,(by injection hk' with hk'; subst hk'; have h0:w.heap.size=b':=(by simpa [bX] using hb'); subst h0; exact g5)⟩⟩
      have hsaf:∀p,p<(xs.length+ys.length)*i.size->fJ (bX j k (some w.heap.size)) (M.set k (.tick i.size (xs.length+ys.length))) w' w.heap.size p:=by
       intro p hp
       refine ⟨lt_of_block g5,fun id hid hj=>?_,fun hx=>absurd (hr.qo _ _ hx) (Nat.lt_irrefl _)⟩
       by_cases hid':id=k
       ·subst hid'; exact ⟨i.size,_,aU (aj hMk),hp⟩
       ·have:=hr.lt id w.heap.size (by simpa using hid) (by simpa [bX,hid'] using hj)
        omega
      have hj:=bF.join (w':=w') hwx hwy hpos (ux:=ux) (uy:=uy) (fun i y k c h1 h2=>(fx2 i y k c h1 h2).mono ext.cu) (fun i y k c h1 h2=>(fy2 i y k c h1 h2).mono ext.cu) g5 g7 g8 hsaf (cap:=newCap) g1
      exact .own (sz:=i.size) (n:=xs.length+ys.length) (aU (aj hMk)) (by simp) hj fun _ => .inr ⟨w.heap.size,newCap,arr,e,by simp [bX],rfl,g5,g6,g1⟩
     rcases ht rfl with ⟨_,hn0,A',hA'⟩|⟨b,cap0,vs,t0,hj,hv0,hw0,hsz0,hcap0⟩
     ·rw [hv] at hA'
      injection hA' with _ _ e3
      exact moved (by omega)
     ·have hvv:=hv.symm.trans hv0
      injection hvv with e1 e2 e3
      subst e1; subst e3
      by_cases hfit:xs.length+ys.length<=cap
      ·have dH:(((List.range (ys.length*i.size)).map uy).toArray).toList.length=ys.length*i.size:=by simp
       have hle:xs.length*i.size+ys.length*i.size<=vs.size:=by
        rw [<-Nat.add_mul]
        exact Nat.le_trans (Nat.mul_le_mul_right _ hfit) hsz0
       have hone:∀v,v∈(((List.range (ys.length*i.size)).map uy).toArray).toList->v.oneCell'=true:=by
        intro v hv
        simp only [List.mem_map,List.mem_range] at hv
        obtain ⟨p,hp,rfl⟩:=hv
        have hd:p / i.size<ys.length:=(Nat.div_lt_iff_lt_mul hpos).2 hp
        have hm:p % i.size<i.size:=Nat.mod_lt _ hpos
        have hcl:=hwy _ (List.getElem_mem hd)
        have:=fy2 (p / i.size) _ (p % i.size) _ (List.getElem?_eq_getElem hd) (List.getElem?_eq_getElem (by omega))
        rw [Nat.div_add_mod'] at this
        exact this.one
       have hst:=fG (P:=P) (((List.range (ys.length*i.size)).map uy).toArray).toList w (xs.length*i.size) 0 vs hw0 (by rw [dH]; omega) hone
       rw [Nat.add_zero] at hst
       obtain ⟨s1,s2,s3,s4,s5,vs',s6,s7,s8,s9⟩:=eT (((List.range (ys.length*i.size)).map uy).toArray).toList w (xs.length*i.size) vs hw0 (by rw [dH]; omega)
       have hrun:=A1 hfit _ (by
        show (storeCells ((⟨b,0,none⟩:Addr).add (xs.length*i.size)) _).run P w=_
        rw [eV,Nat.zero_add]
        exact hst)
       have q:Quiet w (gF w b (xs.length*i.size) (((List.range (ys.length*i.size)).map uy).toArray).toList):=⟨by omega,s2,s3,s4⟩
       have hkeep:∀p,p<xs.length*i.size->vs'[p]?=vs[p]?:=fun p hp=>s8 p (.inl hp)
       have ext:Ext j M w j (M.set k (.tick i.size (xs.length+ys.length))) (gF w b (xs.length*i.size) (((List.range (ys.length*i.size)).map uy).toArray).toList) :=
        Ext.yU hMk hj hr q (fun b' hb' _=>s5 b' hb') hw0 s6 s7 hkeep (by omega)
       refine ⟨_,_,j,.inl ((hexec _ hrun).trans rfl),Rel.yU hMk hj hr q (fun b' hb' _=>s5 b' hb') hw0 s6 s7 hkeep (by omega),ext,?_,fun h=>absurd h hy,fun _ _ _ h => .inl h⟩
       have hsaf:∀p,p<(xs.length+ys.length)*i.size->fJ j (M.set k (.tick i.size (xs.length+ys.length))) (gF w b (xs.length*i.size) (((List.range (ys.length*i.size)).map uy).toArray).toList) b p:=by
        intro p hp
        refine ⟨lt_of_block s6,fun id hid hj'=>?_,hr.lY k b (aj hMk) hj p⟩
        have:id=k:=hr.inj id k b (by simpa using hid) (aj hMk) hj' hj
        subst this
        exact ⟨i.size,_,aU (aj hMk),hp⟩
       have hjn:=bF.join hwx hwy hpos (ux:=ux) (uy:=uy) (fun i y k c h1 h2=>(fx2 i y k c h1 h2).mono ext.cu) (fun i y k c h1 h2=>(fy2 i y k c h1 h2).mono ext.cu) s6 (fun p hp=>by
        rw [hkeep p hp]
        have:=fx3 b ⟨_,_,hv⟩ p hp
        simpa [World.cell?,hw0] using this) (fun p hp=>by
        rw [s9 p (by rw [dH]; exact hp)]
        simp [hp]) hsaf (cap:=cap) hfit
       exact .own (sz:=i.size) (n:=xs.length+ys.length) (aU (aj hMk)) (by simp) hjn fun _ => .inr ⟨b,cap,vs',t0,hj,rfl,s6,by omega,hfit⟩
      ·exact moved (by omega)
  ·cases h
 ·cases h
def CJ (hr:Rel j M w) (he:aL j M w env a) {c:Call} {y y':Operand} {z z':cj} {t t' e e':TypeId} {i:TypeInfo} {zv:Value} (hop:o.op = .call c) (hb:c.callee = .builtin .append) (ha:c.args.toList=[y,y'])
  (hat:c.argTypes = #[t,t']) (hs:P.underlying t=some (.slice e)) (hs':P.underlying t'=some (.slice e')) (hi:P.info? e=some i) (hz:i.zero=some zv) (hzs:zv.cells.size=i.size) (hpos:0<i.size) (hb0:0<i.bytes) (hb1:i.bytes<=2 ^ 20)
  (hzy:bo y=some z) (hzy':bo y'=some z') (h:bd C env M (.append i.size i.bytes z z')=some x) (hna:∀id ver sz lo hi,z.ev env ≠ .aZ id ver sz lo hi):∃v w',im P o a w v w'/\cG j M w x v w':=by
 simp only [bd] at h
 have r1:=aN he hzy
 have r2:=aN he hzy'
 split at h
 ·rename_i tk xs tk' ys ez ez'
  obtain ⟨⟨_,hwx,hwy⟩,_⟩:=aP h
  rw [ez] at r1
  rw [ez'] at r2
  have p2:=r2.bg
  obtain ⟨uy,fy1,fy2,_⟩:=sf (P:=P) p2 hwy hpos
  obtain ⟨A,cap',_,_,_,_,hv',_⟩:=p2.bg
  obtain ⟨v,w',j',q1,q2,q3,q4,_⟩:=th hr hop hb ha hat hs hs' (fun k h=>by cases h) hi hz hzs hpos hb0 hb1 r1 (fun w'=>by rw [hv']; rfl) fy1 fy2 h
  exact ⟨v,w',q1,j',q2,q3,q4⟩
 ·rename_i ez _
  exact absurd ez (hna _ _ _ _ _)
 ·cases h
end
section
variable {P:Program} {C:bt} {o:Oper} {env:Env} {M:ag} {j:J} {w:World} {a:Act} {x:ae×ag}
def Cg {f:Field} {k:FK} (h:G6 P f=some k):f.name ≠ "_" /\ qu P f.type=some false/\(match k with | .b=>P.underlying f.type=some .bool | .i=>∃q,P.underlying f.type=some (.int q) | .s=>P.underlying f.type=some .string):=by
 unfold G6 at h
 split at h
 ·cases h
 ·rename_i hn
  refine ⟨hn,?_⟩
  split at h<;>first
   |(injection h with h; subst h; rename_i hu; exact ⟨by simp [qu,hu],by first|exact hu|exact ⟨_,hu⟩⟩)
   |cases h
def Cc {d:Nat} {f:Field} {k:FK} (hf:G6 P f=some k) {y z:ae} {u v:Value} (hu:bQ j M w y u) (hv:bQ j M w z v) {e:Bool} (h:fq k y z=some e) :
  (Op.equalIn (d+1) f.type u v).run P w = .ok e w:=by
 have hk:=(Cg hf).2.2
 unfold fq at h
 split at h
 ·rename_i k1 a k2 b
  obtain ⟨q,hq⟩:=hk
  split at h
  ·rename_i he
   subst he
   injection h with h; subst h
   rw [hu.bH,hv.bH]
   exact run_equalIn_int w d f.type _ _ a b hq
  ·cases h
 ·rename_i a b
  injection h with h; subst h
  rw [hu.dx,hv.dx,run_equalIn_string w d f.type _ _ hk,ma,ma]
 ·rename_i a b
  injection h with h; subst h
  rw [hu.df,hv.df]
  exact run_equalIn_bool' w d f.type a b hk
 ·cases h
def rb {d:Nat} {cs ds:List ae} {us vs:Array Value} (hc:RC j M w cs us) (hd:RC j M w ds vs):∀ {l:List Field} {k:Nat} {ks:List FK} {e:Bool},tC P k l=some ks->fm ks (cs.drop k) (ds.drop k)=some e ->
  (Op.eqFields (d+1) us vs l).run P w = .ok e w
 | [],k,ks,e,h1,h2=>by
  simp [tC] at h1; subst h1
  unfold fm at h2
  split at h2<;>simp_all [Op.eqFields]
 |f::r,k,ks,e,h1,h2=>by
  simp only [tC] at h1
  split at h1
  ·rename_i hoff
   obtain ⟨q,hq,h1⟩:=an h1
   obtain ⟨qs,hqs,h1⟩:=an h1
   injection h1 with h1; subst h1
   have hk1:k<cs.length:=by
    rcases Nat.lt_or_ge k cs.length with h|h
    ·exact h
    ·rw [List.drop_eq_nil_of_le h] at h2; simp [fm] at h2
   have hk2:k<ds.length:=by
    rcases Nat.lt_or_ge k ds.length with h|h
    ·exact h
    ·rw [List.drop_eq_nil_of_le h] at h2
     rw [List.drop_eq_getElem_cons hk1] at h2
     simp [fm] at h2
   rw [List.drop_eq_getElem_cons hk1,List.drop_eq_getElem_cons hk2] at h2
   simp only [fm] at h2
   obtain ⟨e1,he1,h2⟩:=au h2
   obtain ⟨e2,he2,h2⟩:=au h2
   injection h2 with h2; subst h2
   have hlu:k<us.size:=by have:=hc.1; omega
   have hlv:k<vs.size:=by have:=hd.1; omega
   have hu:=Array.getElem?_eq_getElem hlu
   have hv:=Array.getElem?_eq_getElem hlv
   have ih:=rb (d:=d) hc hd hqs he2
   obtain ⟨hn,hag,_⟩:=Cg hq
   have p1:(part f.type us f.offset).run P w = .ok us[k] w:=by simp [part,dZ hag,hoff,hu]
   have p2:(part f.type vs f.offset).run P w = .ok vs[k] w:=by simp [part,dZ hag,hoff,hv]
   have p3:=Cc (d:=d) hq (hc.2 k _ _ (List.getElem?_eq_getElem hk1) hu) (hd.2 k _ _ (List.getElem?_eq_getElem hk2) hv) he1
   simp only [Op.eqFields,if_pos hn,Sem.run_bind,p1,p2,p3,Result.andThen_ok]
   cases e1
   ·simp
   ·simpa using ih
  ·cases h1
def Dp:∀ {l:List Field} {k:Nat} {ks:List FK},tC P k l=some ks->∀f,f∈l->∃q,G6 P f=some q
 | [],_,_,_,f,hf=>by simp at hf
 |g::r,k,ks,h,f,hf=>by
  simp only [tC] at h
  split at h
  ·obtain ⟨q,hq,h⟩:=an h
   obtain ⟨qs,hqs,h⟩:=an h
   rcases List.mem_cons.1 hf with rfl|hf
   ·exact ⟨q,hq⟩
   ·exact Dp hqs f hf
  ·cases h
def K1 (hr:Rel j M w) (he:aL j M w env a) {neg:Bool} {y y':Operand} {z z':cj} {t t':TypeId} {fs:Array Field} {ks:List FK} (hop:o.op = .binOp (if neg then .neq else .eql) t y y' t') (ht:P.underlying t=some (.struct fs))
  (hst:P.stoodInHeld t=false) (hks:tC P 0 fs.toList=some ks) (hz:bo y=some z) (hz':bo y'=some z') (h:bd C env M (.MS ks neg z z')=some x):∃v w',im P o a w v w'/\cG j M w x v w':=by
 simp only [bd] at h
 have h1:=aN he hz
 have h2:=aN he hz'
 split at h
 ·rename_i cs ds ez ez'
  obtain ⟨e,hee,h⟩:=au h
  injection h with h; subst h
  rw [ez] at h1
  rw [ez'] at h2
  obtain ⟨us,hus,hul,huc⟩:=h1.eK
  obtain ⟨vs,hvs,hvl,hvc⟩:=h2.eK
  have hfs:P.fieldsOf t=fs:=by simp [Program.fieldsOf,ht]
  have heq:(Op.equal t (.agg us) (.agg vs)).run P w = .ok e w:=by
   unfold Op.equal
   rw [show Op.maxDepth=9999+1 from rfl,run_equalIn_struct w 9999 t us vs (by rw [hfs]; exact ht) hst,hfs]
   exact rb (d:=9998) ⟨hul,huc⟩ ⟨hvl,hvc⟩ hks (by simpa using hee)
  have hgt:P.eqGuardType P.depth t=false:=by
   unfold Program.depth
   rw [show 2*(P.types.size+Made.depth)+2=(2*(P.types.size+Made.depth)+1)+1 from rfl,Program.eqGuardType,ht]
   simp only
   rw [Array.any_eq_false]
   intro i hi
   obtain ⟨q,hq⟩:=Dp hks fs[i] (by simp)
   have:=(Cg hq).2.2
   simp only [Program.eqGuardType]
   cases q<;>simp only at this
   ·obtain ⟨_,hu⟩:=this; simp [hu]
   ·simp [this]
   ·simp [this]
  have hguard:∀op,(eqGuard op t y y' (.agg us) (.agg vs)).run P w = .ok () w:=by
   intro op
   unfold eqGuard
   cases op<;>simp [hgt]
  cases neg
  ·exact ⟨.bool e,w,.inl (by simp [execOp,hop,hus,hvs,hguard,binOp,heq]),.still hr (.plain (.bool _))⟩
  ·exact ⟨.bool (!e),w,.inl (by simp [execOp,hop,hus,hvs,hguard,binOp,heq]),.still hr (.plain (.bool _))⟩
 ·cases h
end
end
section
open Go Go.RowKit
variable [dQ]
section
variable {j:J} {M:ag} {w w':World}
def sQ (hr:Rel j M w):∀n,∃j',Rel j' (M++List.replicate n aK.mO) w/\Ext j M w j' (M++List.replicate n aK.mO) w
 |0=>⟨j,by simpa using hr,by simpa using Ext.refl j M w⟩
 |n+1=>by
  obtain ⟨j',h1,h2⟩:=sQ hr n
  have q:Quiet w w:=⟨Nat.le_refl _,rfl,rfl,rfl⟩
  refine ⟨bX j' (M++List.replicate n aK.mO).length none,?_⟩
  rw [List.replicate_succ',<-List.append_assoc]
  exact ⟨h1.push (ob:=none) (bx := .mO) (fun b h=>by cases h) q (fun _ _=>rfl) (fun h=>by cases h) (fun sz n b h h'=>by cases h'),h2.trans (Ext.push (fun b h=>by cases h) q (fun _ _=>rfl))⟩
def Ext.fill {p b:Nat} {cs:List ae} (hM:M[p]?=some .mO) (hob:w.heap.size<=b) (q:Quiet w w') (hb:∀b,b<w.heap.size->w'.heap[b]?=w.heap[b]?) :
  Ext j M w (bX j p (some b)) (M.set p (.cells cs)) w' where
 len:=by simp
 size:=q.size
 os:=q.os
 tape:=q.tape
 output:=q.output
 X:=rfl
 fix:=fun i bx h hf=>by
  have e:p≠i:=by rintro rfl; rw [hM] at h; injection h with h; subst h; cases hf
  exact ⟨by simp [bX,Ne.symm e],bx,by rw [aH e]; exact h,rfl⟩
 tick:=fun i sz n h=>by
  have e:p≠i:=by rintro rfl; rw [hM] at h; cases h
  exact ⟨n,Nat.le_refl _,by rw [aH e]; exact h,fun _=>⟨by simp [bX,Ne.symm e],fun b vs t _ hv=>⟨vs,(hb b (lt_of_block hv)).trans hv,rfl⟩⟩⟩
 arr:=fun i sz v xs h=>by
  have e:p≠i:=by rintro rfl; rw [hM] at h; cases h
  exact .inr ⟨v,xs,by rw [aH e]; exact h,Nat.le_refl _,fun _=>⟨by simp [bX,Ne.symm e],rfl,fun b vs t _ hv=>⟨vs,(hb b (lt_of_block hv)).trans hv,rfl⟩⟩⟩
 tags:=fun b0 vs0 t0 fr0 h=>⟨vs0,fr0,(hb b0 (lt_of_block h)).trans h,rfl⟩
 cu:=fun b0 off h=>by
  refine ⟨⟨Nat.lt_of_lt_of_le h.1 q.size,fun id hid hj=>?_,h.3⟩,World.cell?_of_block (w:=w) (hb b0 h.1)⟩
  by_cases he:id=p
  ·have:b=b0:=by simpa [bX,he] using hj
   have:=h.1
   omega
  ·rw [aH (Ne.symm he)]
   exact h.2 id (by simpa using hid) (by simpa [bX,he] using hj)
 mP:=fun b0 hlt h=>by
  refine ⟨hb b0 hlt,fun i hi hj=>?_⟩
  by_cases he:i=p
  ·have:b=b0:=by simpa [bX,he] using hj
   omega
  ·exact h i (by simpa using hi) (by simpa [bX,he] using hj)
def Rel.fill (hr:Rel j M w) {p b:Nat} {cs:List ae} (hM:M[p]?=some .mO) (hob:w.heap.size<=b) (hbl:b<w'.heap.size) (q:Quiet w w') (hb:∀b,b<w.heap.size->w'.heap[b]?=w.heap[b]?)
  (hbox:∀j' M',Ext j M w j' M' w'->Holds j' M' w' b (.cells cs)):Rel (bX j p (some b)) (M.set p (.cells cs)) w':=by
 have ext:Ext j M w (bX j p (some b)) (M.set p (.cells cs)) w':=Ext.fill hM hob q hb
 have up:∀i,i≠p->bX j p (some b) i=j i:=fun i hi=>by simp [bX,hi]
 have hp:=aj hM
 refine ⟨fun i i' b0 hi hi' h h'=>?_,fun i b0 hi h=>?_,fun i bx' h hf=>?_,fun i sz n b0 h hj=>?_,fun i sz ver xs h=>?_,fun i b0 hi h off hx=>?_,fun b off h=>Nat.lt_of_lt_of_le (hr.qo b off h) q.size⟩
 ·simp only [List.length_set] at hi hi'
  by_cases e:i=p<;>by_cases e':i'=p
  ·omega
  ·have h1:b=b0:=by simpa [bX,e] using h
   rw [up i' e'] at h'
   have:=hr.lt i' b0 hi' h'
   omega
  ·have h1:b=b0:=by simpa [bX,e'] using h'
   rw [up i e] at h
   have:=hr.lt i b0 hi h
   omega
  ·rw [up i e] at h
   rw [up i' e'] at h'
   exact hr.inj i i' b0 hi hi' h h'
 ·simp only [List.length_set] at hi
  by_cases e:i=p
  ·have h1:b=b0:=by simpa [bX,e] using h
   omega
  ·rw [up i e] at h
   exact Nat.lt_of_lt_of_le (hr.lt i b0 hi h) q.size
 ·by_cases e:i=p
  ·subst e
   rw [aU hp] at h
   injection h with h; subst h
   exact ⟨b,by simp [bX],hbox _ _ ext⟩
  ·rw [aH (Ne.symm e)] at h
   obtain ⟨b0,h1,h2⟩:=hr.fix i bx' h hf
   exact ⟨b0,by rw [up i e]; exact h1,h2.mono ext (hb b0 (hr.lt i b0 (aj h) h1))⟩
 ·by_cases e:i=p
  ·subst e; rw [aU hp] at h; cases h
  ·rw [aH (Ne.symm e)] at h
   rw [up i e] at hj
   obtain ⟨vs,t,h1⟩:=hr.tick i sz n b0 h hj
   exact ⟨vs,t,(hb b0 (lt_of_block h1)).trans h1⟩
 ·by_cases e:i=p
  ·subst e; rw [aU hp] at h; cases h
  ·rw [aH (Ne.symm e)] at h
   exact ia hr ext h (up i e) fun b0 h1=>hb b0 (hr.lt i b0 (aj h) h1)
 ·simp only [List.length_set] at hi
  by_cases e:i=p
  ·have h1:b=b0:=by simpa [bX,e] using h
   have h2:=hr.qo b0 off hx
   omega
  ·rw [up i e] at h
   exact hr.lY i b0 hi h off hx
def G3 (hr:Rel j M w) {p:Nat} (hM:M[p]?=some .mO) {cs:List ae} {vs:Array Value} (hc:RC j M w cs vs) (t:TypeId) :
  cG j M w (.ptr p 0,M.set p (.cells cs)) (.pointer (some ⟨w.heap.size,0,none⟩)) { w with heap:=w.heap.push (.cells vs t (0,0)) }:=by
 have q:Quiet w { w with heap:=w.heap.push (.cells vs t (0,0)) }:=⟨by simp,rfl,rfl,rfl⟩
 have hb:∀b,b<w.heap.size->({ w with heap:=w.heap.push (.cells vs t (0,0)) }:World).heap[b]?=w.heap[b]?:=fun b hb=>by
  show (w.heap.push _)[b]?=_
  rw [Array.getElem?_push,if_neg (by omega)]
 have hn:({ w with heap:=w.heap.push (.cells vs t (0,0)) }:World).heap[w.heap.size]?=some (.cells vs t (0,0)):=by simp
 have hp:=aj hM
 exact ⟨bX j p (some w.heap.size),hr.fill hM (Nat.le_refl _) (by simp) q hb (fun j' M' hx=>⟨vs,t,hn,hc.1,fun i c v h1 h2=>(hc.2 i c v h1 h2).mono hx⟩),Ext.fill hM (Nat.le_refl _) q hb,.ptr (by simpa using hp) ⟨cs,aU hp⟩ (by simp [bX])⟩
end
variable {P:Program} {own:List Nat} {o:Oper}
def Er {l:List ae} {t:TypeId} (hop:o.op = .alloc t) (h:Gk P own o=some (.ib l)):∃i zv,P.info? t=some i/\i.zero=some zv/\jL zv.cells.toList=some l:=by
 simp only [Gk,hop] at h
 obtain ⟨i,hi,h⟩:=an h
 obtain ⟨z,hz,h⟩:=an h
 obtain ⟨l',hl,h⟩:=an h
 split at h
 ·split at h
  ·cases h
  ·split at h
   ·split at h
    ·obtain ⟨n,hn,h⟩:=an h
     cases h
    ·cases h
   ·injection h with h; injection h with h; subst h; exact ⟨i,z,hi,hz,hl⟩
 ·injection h with h; injection h with h; subst h; exact ⟨i,z,hi,hz,hl⟩
def Es {l:List ae} {t0:TypeId} (hop:o.op = .alloc t0) (h:Gk P own o=some (.ib l)) (a:Act) (w:World):∃vs t,(∀j M w',RC j M w' l vs)/\im P o a w (.pointer (some ⟨w.heap.size,0,none⟩)) { w with heap:=w.heap.push (.cells vs t (0,0)) }:=by
 obtain ⟨i,zv,hi,hz,hl⟩:=Er hop h
 refine ⟨zv.cells,t0,fun j M w'=>?_,.inl (by simp [execOp,hop,Instr.alloc,zeroValue,gu hi,hz,newVar,newRow])⟩
 obtain ⟨h1,h2⟩:=gJ (j:=j) (M:=M) (w:=w') hl
 exact ⟨by simpa using h1,fun i c v hc hv=>h2 i c v hc (by simpa using hv)⟩
end
section
open Go Go.RowKit
variable [dQ]
def qc {x:Nat}:∀(l a:List Nat),x∈dU a l↔x∈a\/x∈l
 | [],a=>by simp [dU]
 |y::r,a=>by
  rw [dU,qc r]
  by_cases h:a.contains y=true
  ·rw [if_pos h]
   have:y∈a:=by simpa using h
   constructor
   ·rintro (h|h)<;>simp [h]
   ·rintro (h|h)
    ·exact .inl h
    ·rcases List.mem_cons.1 h with rfl|h
     ·exact .inl this
     ·exact .inr h
  ·rw [if_neg h]; simp [or_assoc]
def jb:∀(l a:List Nat),a.Nodup->(dU a l).Nodup
 | [],a,h=>h
 |y::r,a,h=>by
  rw [dU]
  refine jb r _ ?_
  split
  ·exact h
  ·rename_i hc
   rw [List.nodup_append]
   exact ⟨h,by simp,fun u hu v hv=>by simp at hv; subst hv; rintro rfl; exact hc (by simpa using hu)⟩
def AO (M:ag) (l:List Nat):(reach M l).Nodup:=jb _ _ (jb _ _ (jb _ _ (jb _ _ List.nodup_nil)))
def Fv {M:ag} {l:List Nat} {x:Nat} (h:x∈l):x∈reach M l:=by
 unfold reach ep
 simp [qc,h]
def xw {M:ag} {x i:Nat} {b:aK}:∀ {l:List Nat},i∈l->M[i]?=some b->x∈b.ids->x∈iE M l
 | [],h,_,_=>by simp at h
 |k::r,h,hb,hx=>by
  rw [iE,List.mem_append]
  rcases List.mem_cons.1 h with rfl|h
  ·left; rw [bE,hb]; exact hx
  ·exact .inr (xw h hb hx)
def EM {M:ag} {ids:List Nat} (h:ep M ids=ids) {i x:Nat} {b:aK} (hi:i∈ids) (hb:M[i]?=some b) (hx:x∈b.ids):x∈ids:=by
 rw [<-h,ep,qc]
 exact .inr (xw hi hb hx)
def kP:∀ {ids:List Nat} {x:Nat},x∈ids->ids[cM ids x]?=some x
 | [],_,h=>by simp at h
 |a::l,x,h=>by
  rw [cM]
  split
  ·rename_i e; subst e; simp
  ·rename_i e
   rcases List.mem_cons.1 h with rfl|h
   ·exact absurd rfl e
   ·simpa using kP h
def lA {ids:List Nat} {x:Nat} (h:x∈ids):cM ids x<ids.length:=aj (kP h)
def uo:∀ {ids:List Nat} {i x:Nat},ids.Nodup->ids[i]?=some x->cM ids x=i
 | [],i,x,_,h=>by simp at h
 |a::l,i,x,hn,h=>by
  rw [cM]
  have hn':=List.nodup_cons.1 hn
  cases i with
  |zero=>simp at h; rw [if_pos h]
  |succ i =>
   have h':l[i]?=some x:=by simpa using h
   rw [if_neg (by rintro rfl; exact hn'.1 (List.mem_of_getElem? h')),uo hn'.2 h']
def Dd {ids:List Nat} {x:Nat} (h:x∈ids):pn ids (cM ids x)=x:=by rw [pn,bE,kP h]; rfl
def Qs {ids:List Nat} {i x:Nat} (h:ids[i]?=some x):pn ids i=x:=by rw [pn,bE,h]; rfl
def vM {M:ag} {ρ:Nat->Nat}:∀ {l:List Nat} {B:ag},dv M ρ l=some B->B.length=l.length/\∀(i id:Nat),l[i]?=some id->∃b,M[id]?=some b/\b.flat=true/\B[i]?=some (b.ik ρ)
 | [],B,h=>by simp [dv] at h; subst h; exact ⟨rfl,fun i id h=>by simp at h⟩
 |k::r,B,h=>by
  simp only [dv,bE] at h
  split at h
  ·rename_i b hb
   split at h
   ·rename_i hf
    obtain ⟨l,hl,h⟩:=au h
    injection h with h; subst h
    obtain ⟨h1,h2⟩:=vM hl
    refine ⟨by simp [h1],fun i id hi=>?_⟩
    cases i with
    |zero=>simp at hi; subst hi; exact ⟨b,hb,hf,by simp⟩
    |succ i =>
     obtain ⟨b',g1,g2,g3⟩:=h2 i id (by simpa using hi)
     exact ⟨b',g1,g2,by simpa using g3⟩
   ·cases h
  ·cases h
def nk {ids:List Nat}:∀ {l:List Nat} {B M:ag},l.Nodup->l.length=B.length->(eJ ids M l B).length=M.length/\(∀i,i∉l->(eJ ids M l B)[i]?=M[i]?) /\
  ∀(i id:Nat) (b:aK),l[i]?=some id->id<M.length->B[i]?=some b->(eJ ids M l B)[id]?=some (b.ik (pn ids))
 | [],B,M,_,_=>by unfold eJ; exact ⟨rfl,fun _ _=>rfl,fun i id b h=>by simp at h⟩
 |k::r,[],M,_,hl=>by simp at hl
 |k::r,b::B,M,hn,hl=>by
  rw [eJ,cd]
  have hn':=List.nodup_cons.1 hn
  obtain ⟨h1,h2,h3⟩:=nk (ids:=ids) (l:=r) (B:=B) (M:=M.set k (b.ik (pn ids))) hn'.2 (by simpa using hl)
  refine ⟨by rw [h1]; simp,fun i hi=>?_,fun i id b' hi hid hb=>?_⟩
  ·have hk:k≠i:=fun e=>hi (by simp [e])
   rw [h2 i (fun h=>hi (by simp [h])),aH hk]
  ·cases i with
   |zero =>
    simp at hi hb
    subst hi; subst hb
    rw [h2 k hn'.1,aU hid]
   |succ i=>exact h3 i id b' (by simpa using hi) (by simpa using hid) (by simpa using hb)
def D2 (ρ:Nat->Nat) (b:aK):(b.ik ρ).tag=b.tag:=by cases b<;>rfl
def pa {ρ:Nat->Nat} {b:aK} (h:b.loose=true):b.ik ρ=b:=by cases b<;>first|rfl|cases h
structure Sub (j:J) (M:ag) (w:World) (ids:List Nat) (B:ag):Prop where
 nodup:ids.Nodup
 len:B.length=ids.length
 box:∀(i id:Nat),ids[i]?=some id->∃b,M[id]?=some b/\b.flat=true/\B[i]?=some (b.ik (cM ids))
 closed:∀(i:Nat) (b:aK),i∈ids->M[i]?=some b->∀x,x∈b.ids->x∈ids
def down (j:J) (M:ag) (ids:List Nat):J:=⟨fun i=>match ids[i]? with|some id=>j id|none=>none,fun b off=>j.X b off\/∃id,id<M.length/\id∉ids/\j id=some b/\¬ ∃sz n,M[id]?=some (.tick sz n)/\off<n*sz⟩
section
variable {j:J} {M B:ag} {w:World} {ids:List Nat}
def Sub.at_ (s:Sub j M w ids B) {id:Nat} (h:id∈ids) {b:aK} (hb:M[id]?=some b):B[cM ids id]?=some (b.ik (cM ids)):=by
 obtain ⟨b',h1,_,h2⟩:=s.box _ _ (kP h)
 rw [hb] at h1; injection h1 with h1; subst h1; exact h2
def Sub.inv (s:Sub j M w ids B) {i:Nat} {c:aK} (h:B[i]?=some c):∃id b,ids[i]?=some id/\M[id]?=some b/\b.flat=true/\c=b.ik (cM ids):=by
 have hi:i<ids.length:=by rw [<-s.len]; exact aj h
 obtain ⟨b,h1,h2,h3⟩:=s.box i _ (List.getElem?_eq_getElem hi)
 rw [h] at h3; injection h3 with h3
 exact ⟨_,b,List.getElem?_eq_getElem hi,h1,h2,h3⟩
def ei {id:Nat} (h:id∈ids):(down j M ids) (cM ids id)=j id:=by simp [down,kP h]
def iU {i b:Nat} (h:(down j M ids) i=some b):∃id,ids[i]?=some id/\j id=some b:=by
 simp only [down] at h
 split at h
 ·exact ⟨_,by assumption,h⟩
 ·cases h
def Sub.cu (s:Sub j M w ids B) {b off:Nat} (h:fJ j M w b off):fJ (down j M ids) B w b off:=by
 refine ⟨h.lt,fun i hi hj=>?_,fun hx=>?_⟩
 ·obtain ⟨id,h1,h2⟩:=iU hj
  obtain ⟨bx,h3,_,h4⟩:=s.box i id h1
  obtain ⟨sz,n,h5,h6⟩:=h.ids id (aj h3) h2
  rw [h3] at h5; injection h5 with h5; subst h5
  exact ⟨sz,n,h4,h6⟩
 ·rcases hx with hx|⟨id,h1,_,h2,h3⟩
  ·exact h.nx hx
  ·exact h3 (h.ids id h1 h2)
def Sub.LJ (s:Sub j M w ids B) {x:ae} {v:Value} (h:bQ j M w x v) (hf:x.wR=true) (hi:∀i,i∈x.cm->i∈ids):bQ (down j M ids) B w (x.jV (cM ids)) v:=by
 cases h with
 |plain h =>
  have:x.jV (cM ids)=x:=by cases h<;>rfl
  rw [this]
  exact .plain (h.mono fun b off hs=>⟨s.cu hs,rfl⟩)
 |c0 A=>exact .c0 A
 | @own k xs v sz n hk hn hp ht =>
  have hki:k∈ids:=hi k (by simp [ae.cm])
  refine .own (sz:=sz) (n:=n) (s.at_ hki hk) hn (hp.mono fun b off hs=>⟨s.cu hs,rfl⟩) fun he=>?_
  rcases ht he with ⟨g1,g2,g3⟩|⟨b,cap,vs,t,g1,g2,g3,g4,g5⟩
  ·exact .inl ⟨by rw [ei hki]; exact g1,g2,g3⟩
  ·exact .inr ⟨b,cap,vs,t,by rw [ei hki]; exact g1,g2,g3,g4,g5⟩
 |agg=>cases hf
 |tuple=>cases hf
 | @ptr id off b hid hc hj =>
  have hki:id∈ids:=hi id (by simp [ae.cm])
  obtain ⟨cs,hc⟩:=hc
  exact .ptr (by rw [s.len]; exact lA hki) ⟨_,s.at_ hki hc⟩ (by rw [ei hki]; exact hj)
 |cW h=>exact .cW fun k c hk=>⟨(h k c hk).1,s.cu (h k c hk).2.1,(h k c hk).2.2.mono fun b off hs=>⟨s.cu hs,rfl⟩⟩
 |func=>cases hf
 | @cz id b hc hj =>
  have hki:id∈ids:=hi id (by simp [ae.cm])
  obtain ⟨ks,vs,hc⟩:=hc
  exact .cz ⟨_,_,s.at_ hki hc⟩ (by rw [ei hki]; exact hj)
 | @dp id b hc hj =>
  have hki:id∈ids:=hi id (by simp [ae.cm])
  obtain ⟨ks,vs,hc⟩:=hc
  exact .dp ⟨_,_,s.at_ hki hc⟩ (by rw [ei hki]; exact hj)
 | @bI id t b v hc hj hk hv =>
  have hki:id∈ids:=hi id (by simp [ae.cm])
  obtain ⟨cs,hc⟩:=hc
  exact .bI ⟨_,s.at_ hki hc⟩ (by rw [ei hki]; exact hj) hk hv
 | @dI t id off b hc hj =>
  have hki:id∈ids:=hi id (by simp [ae.cm])
  obtain ⟨cs,hc⟩:=hc
  exact .dI ⟨_,s.at_ hki hc⟩ (by rw [ei hki]; exact hj)
 | @cA k t n x l v hk hn hp ht =>
  have hki:k∈ids:=hi k (by simp [ae.cm])
  refine .cA (n:=n) (s.at_ hki hk) hn (hp.mono fun b off hs=>⟨s.cu hs,rfl⟩) fun he=>?_
  rcases ht he with ⟨g1,g2,g3⟩|⟨b,cap,vs,g0,g1,g2,g3,g4,g5⟩
  ·exact .inl ⟨by rw [ei hki]; exact g1,g2,g3⟩
  ·exact .inr ⟨b,cap,vs,g0,by rw [ei hki]; exact g1,g2,g3,g4,g5⟩
 |iA hl hd=>exact .iA hl fun i c v h1 h2=>(hd i c v h1 h2).mono fun b off hs=>⟨s.cu hs,rfl⟩
 | @du ks vs b es cl hb hfr hx hw hk hv hks hvs =>
  refine .du hb (fun i _ he=>?_) (fun off hx'=>?_) hw hk hv (fun i k e h1 h2=>(hks i k e h1 h2).mono fun b off hs=>⟨s.cu hs,rfl⟩) (fun i k e h1 h2=>(hvs i k e h1 h2).mono fun b off hs=>⟨s.cu hs,rfl⟩)
  ·obtain ⟨id,h1,h2⟩:=iU he
   obtain ⟨bx,h3,_⟩:=s.box _ _ h1
   exact hfr id (aj h3) h2
  ·rcases hx' with hx'|⟨id,h1,_,h2,_⟩
   ·exact hx off hx'
   ·exact hfr id h1 h2
 | @aZ id ver sz0 lo hi v h0 hid hM hv =>
  have hki:id∈ids:=hi id (by simp [ae.cm])
  have hb:=List.getElem?_eq_getElem hid
  have hat:=s.at_ hki hb
  rw [pa (hM _ hb)] at hat
  refine .aZ h0 (by rw [s.len]; exact lA hki) (fun bx hbx=>?_) fun sz v' xs h=>?_
  ·rw [hat] at hbx; exact hM bx (hb.trans hbx)
  ·rw [hat] at h
   obtain ⟨k1,k2⟩:=hv sz v' xs (hb.trans h)
   exact ⟨k1,fun he=>by
    obtain ⟨l0,l1,l2,⟨l3,l4,l5⟩|⟨b,cap,vs,t,l3,r⟩⟩:=k2 he
    ·exact ⟨l0,l1,l2,.inl ⟨l3,by rw [ei hki]; exact l4,l5⟩⟩
    exact ⟨l0,l1,l2,.inr ⟨b,cap,vs,t,by rw [ei hki]; exact l3,r⟩⟩⟩
 | @cV id ver i off v h0 hid hM hv =>
  have hki:id∈ids:=hi id (by simp [ae.cm])
  have hb:=List.getElem?_eq_getElem hid
  have hat:=s.at_ hki hb
  rw [pa (hM _ hb)] at hat
  refine .cV h0 (by rw [s.len]; exact lA hki) (fun bx hbx=>?_) fun sz v' xs h=>?_
  ·rw [hat] at hbx; exact hM bx (hb.trans hbx)
  ·rw [hat] at h
   obtain ⟨k1,k2⟩:=hv sz v' xs (hb.trans h)
   exact ⟨k1,fun he=>by
    obtain ⟨l1,b,l3,r⟩:=k2 he
    exact ⟨l1,b,by rw [ei hki]; exact l3,r⟩⟩
 |any v=>exact .any v
def Sub.CS (s:Sub j M w ids B) {x:ae} {v:Value} (h:bQ j M w x v) (hf:x.nu=true) (hi:∀i,i∈x.fz->i∈ids):bQ (down j M ids) B w (x.km (cM ids)) v:=by
 by_cases hfn:∃f caps,x = .func f caps
 ·obtain ⟨f,caps,rfl⟩:=hfn
  obtain ⟨vs,rfl,hl,hc⟩:=h.jR
  refine .func (by simpa using hl) fun i c u hci hu=>?_
  rw [List.getElem?_map,Option.map_eq_some_iff] at hci
  obtain ⟨c0,hc0,rfl⟩:=hci
  have hm:=List.mem_of_getElem? hc0
  exact s.LJ (hc i c0 u hc0 hu) (List.all_eq_true.1 hf c0 hm) fun q hq=>hi q (List.mem_flatMap.2 ⟨c0,hm,hq⟩)
 ·have e1:x.km (cM ids)=x.jV (cM ids):=by cases x<;>first|rfl|exact absurd ⟨_,_,rfl⟩ hfn
  have e2:x.fz=x.cm:=by cases x<;>first|rfl|exact absurd ⟨_,_,rfl⟩ hfn
  have e3:x.wR=true:=by cases x<;>first|rfl|exact absurd ⟨_,_,rfl⟩ hfn|cases hf
  rw [e1]
  exact s.LJ h e3 (by rw [<-e2]; exact hi)
def Sub.rep (s:Sub j M w ids B) {x:ae} {v:Value} (h:bQ j M w x v) (hf:x.flat=true) (hi:∀i,i∈x.ids->i∈ids):bQ (down j M ids) B w (x.ik (cM ids)) v:=by
 by_cases hag:∃cs,x = .agg cs
 ·obtain ⟨cs,rfl⟩:=hag
  obtain ⟨vs,rfl,hl,hc⟩:=h.eK
  refine .agg (by simpa using hl) fun i c u hci hu=>?_
  rw [List.getElem?_map,Option.map_eq_some_iff] at hci
  obtain ⟨c0,hc0,rfl⟩:=hci
  have hm:=List.mem_of_getElem? hc0
  exact s.CS (hc i c0 u hc0 hu) (List.all_eq_true.1 hf c0 hm) fun q hq=>hi q (List.mem_flatMap.2 ⟨c0,hm,hq⟩)
 ·have e1:x.ik (cM ids)=x.km (cM ids):=by cases x<;>first|rfl|exact absurd ⟨_,rfl⟩ hag
  have e2:x.ids=x.fz:=by cases x<;>first|rfl|exact absurd ⟨_,rfl⟩ hag
  have e3:x.nu=true:=by cases x<;>first|exact hf|exact absurd ⟨_,rfl⟩ hag
  rw [e1]
  exact s.CS h e3 (by rw [<-e2]; exact hi)
def Sub.rel (s:Sub j M w ids B) (hr:Rel j M w):Rel (down j M ids) B w:=by
 have Gn:∀ {i id:Nat},ids[i]?=some id->id<M.length:=fun h=>by
  obtain ⟨b,h1,_⟩:=s.box _ _ h
  exact aj h1
 refine ⟨fun i i' b hi hi' h h'=>?_,fun i b hi h=>?_,fun i cb h hf=>?_,fun i sz n b h hj=>?_,fun i sz ver xs h=>?_,fun i b hi h off hx=>?_,fun b off h=>?_⟩
 ·obtain ⟨id,h1,h2⟩:=iU h
  obtain ⟨id',h1',h2'⟩:=iU h'
  have:=hr.inj id id' b (Gn h1) (Gn h1') h2 h2'
  subst this
  rw [<-uo s.nodup h1,uo s.nodup h1']
 ·obtain ⟨id,h1,h2⟩:=iU h
  exact hr.lt id b (Gn h1) h2
 ·obtain ⟨id,bx,h1,h2,h3,h4⟩:=s.inv h
  subst h4
  have hfx:bx.fixed=true:=by cases bx<;>first|rfl|cases hf
  obtain ⟨b,g1,g2⟩:=hr.fix id bx h2 hfx
  refine ⟨b,by simp [down,h1,g1],?_⟩
  have hcl:∀p,p∈bx.ids->p∈ids:=s.closed id _ (List.mem_of_getElem? h1) h2
  cases bx with
  |tick sz n=>cases hf
  |cells cs0 =>
   obtain ⟨vs,t,k1,k2,k3⟩:=g2
   refine ⟨vs,t,k1,by simpa using k2,fun q c v hc hv=>?_⟩
   rw [List.getElem?_map,Option.map_eq_some_iff] at hc
   obtain ⟨c0,hc0,rfl⟩:=hc
   have hm:=List.mem_of_getElem? hc0
   exact s.CS (k3 q c0 v hc0 hv) (List.all_eq_true.1 h3 c0 hm) fun p hp=>hcl p (List.mem_flatMap.2 ⟨c0,hm,hp⟩)
  |map ks vs =>
   obtain ⟨es,cl,k1,k2,k3,k4,k5⟩:=g2
   refine ⟨es,cl,k1,k2,by simpa using k3,fun q c e hc he=>(k4 q c e hc he).mono fun b off hs=>⟨s.cu hs,rfl⟩,fun q c e hc he=>?_⟩
   rw [List.getElem?_map,Option.map_eq_some_iff] at hc
   obtain ⟨c0,hc0,rfl⟩:=hc
   have hm:=List.mem_of_getElem? hc0
   exact s.rep (k5 q c0 e hc0 he) (List.all_eq_true.1 h3 c0 hm) fun p hp=>hcl p (List.mem_flatMap.2 ⟨c0,hm,hp⟩)
  |fB st pos=>exact g2
  |mO=>cases hf
  |arr=>cases hf
 ·obtain ⟨id,bx,h1,h2,h3,h4⟩:=s.inv h
  obtain ⟨id',h1',h2'⟩:=iU hj
  rw [h1] at h1'; injection h1' with h1'; subst h1'
  cases bx<;>first|cases h4|skip
  exact hr.tick id _ _ b h2 h2'
 ·obtain ⟨id,bx,h1,h2,h3,h4⟩:=s.inv h
  cases bx<;>first|cases h4|skip
  obtain ⟨g0,g1⟩|⟨b,vs,t,g1,g2,g3,g4,g5⟩:=hr.arr id _ _ _ h2
  ·exact .inl ⟨g0,by simp [down,h1,g1]⟩
  exact .inr ⟨b,vs,t,by simp [down,h1,g1],g2,g3,g4,fun q x k c hx hk=>(g5 q x k c hx hk).imp fun u hu=>⟨hu.1,hu.2.mono fun b off hs=>⟨s.cu hs,rfl⟩⟩⟩
 ·obtain ⟨id,h1,h2⟩:=iU h
  rcases hx with hx|⟨id',g1,g2,g3,_⟩
  ·exact hr.lY id b (Gn h1) h2 off hx
  ·have:=hr.inj id id' b (Gn h1) g1 h2 g3
   subst this
   exact g2 (List.mem_of_getElem? h1)
 ·rcases h with h|⟨id,g1,_,g3,_⟩
  ·exact hr.qo b off h
  ·exact hr.lt id b g1 g3
variable {j2:J} {B':ag} {w':World}
open Classical in
noncomputable def F7 (j j2:J) (ids:List Nat):J:=⟨fun id=>if id∈ids then j2 (cM ids id) else j id,j.X⟩
def dV {id:Nat} (h:id∈ids):(F7 j j2 ids) id=j2 (cM ids id):=by simp [F7,h]
def gk {id:Nat} (h:id∉ids):(F7 j j2 ids) id=j id:=by simp [F7,h]
structure nG (j:J) (M B:ag) (w:World) (ids:List Nat) (j2:J) (B':ag) (w':World):Prop where
 sub:Sub j M w ids B
 hr:Rel j M w
 ext:Ext (down j M ids) B w j2 B' w'
 rel:Rel j2 B' w'
 len:B'.length=B.length
 flat:∀b,b∈B'->b.flat=true
variable (bk:nG j M B w ids j2 B' w')
include bk
def nG.Gn {i id:Nat} (h:ids[i]?=some id):id<M.length:=by
 obtain ⟨b,h1,_⟩:=bk.sub.box _ _ h
 exact aj h1
def nG.An {id:Nat} (h:id∈ids) {b:aK} (hb:B'[cM ids id]?=some b):(eJ ids M ids B')[id]?=some (b.ik (pn ids)) :=
 (nk bk.sub.nodup (by rw [bk.len,bk.sub.len])).2.2 _ id b (kP h) (bk.Gn (kP h)) hb
def nG.CN {id:Nat} (h:id∉ids):(eJ ids M ids B')[id]?=M[id]?:=(nk bk.sub.nodup (by rw [bk.len,bk.sub.len])).2.1 id h
def nG.jF:(eJ ids M ids B').length=M.length:=(nk bk.sub.nodup (by rw [bk.len,bk.sub.len])).1
def nG.some_ {id:Nat} (h:id∈ids):∃b,B'[cM ids id]?=some b/\b.flat=true:=by
 have hi:cM ids id<B'.length:=by rw [bk.len,bk.sub.len]; exact lA h
 exact ⟨_,List.getElem?_eq_getElem hi,bk.flat _ (List.getElem_mem hi)⟩
def nG.mP {id b:Nat} (hid:id<M.length) (h:id∉ids) (hj:j id=some b):w'.heap[b]?=w.heap[b]?/\∀i,i<B'.length->j2 i≠some b:=by
 refine bk.ext.mP b (bk.hr.lt id b hid hj) fun i hi he=>?_
 obtain ⟨id',h1,h2⟩:=iU he
 have:=bk.hr.inj id id' b hid (bk.Gn h1) hj h2
 subst this
 exact h (List.mem_of_getElem? h1)
def nG.cu {b off:Nat} (h:fJ j2 B' w' b off):fJ (F7 j j2 ids) (eJ ids M ids B') w' b off:=by
 have hX:=bk.ext.X
 have hnx:=h.nx
 rw [hX] at hnx
 refine ⟨h.lt,fun id hid hj=>?_,fun hx=>hnx (.inl hx)⟩
 rw [bk.jF] at hid
 by_cases hi:id∈ids
 ·rw [dV hi] at hj
  obtain ⟨sz,n,h1,h2⟩:=h.ids _ (by rw [bk.len,bk.sub.len]; exact lA hi) hj
  exact ⟨sz,n,bk.An hi h1,h2⟩
 ·rw [gk hi] at hj
  rw [bk.CN hi]
  exact Classical.byContradiction fun hc=>hnx (.inr ⟨id,hid,hi,hj,hc⟩)
def nG.M1:Ext j M w (F7 j j2 ids) (eJ ids M ids B') w' where
 len:=by rw [bk.jF]; exact Nat.le_refl _
 size:=bk.ext.size
 os:=bk.ext.os
 tape:=bk.ext.tape
 output:=bk.ext.output
 X:=rfl
 fix:=fun id bx h hf=>by
  by_cases hi:id∈ids
  ·obtain ⟨g1,bx',g2,g3⟩:=bk.ext.fix _ _ (bk.sub.at_ hi h) (by cases bx<;>first|rfl|cases hf)
   rw [dV hi,g1,ei hi]
   refine ⟨rfl,_,bk.An hi g2,?_⟩
   rw [D2,g3,D2]
  ·rw [gk hi,bk.CN hi]; exact ⟨rfl,bx,h,rfl⟩
 tick:=fun id sz n h=>by
  by_cases hi:id∈ids
  ·obtain ⟨n',g1,g2,g3⟩:=bk.ext.tick _ _ _ (bk.sub.at_ hi h)
   refine ⟨n',g1,bk.An hi g2,fun he=>?_⟩
   obtain ⟨k1,k2⟩:=g3 he
   rw [dV hi,k1,ei hi]
   exact ⟨rfl,fun b vs t hb hv=>k2 b vs t (by rw [ei hi]; exact hb) hv⟩
  ·rw [gk hi,bk.CN hi]
   exact ⟨n,Nat.le_refl _,h,fun _=>⟨rfl,fun b vs t hb hv=>⟨vs,(bk.mP (aj h) hi hb).1.trans hv,rfl⟩⟩⟩
 arr:=fun id sz v xs h=>by
  by_cases hi:id∈ids
  ·rcases bk.ext.arr _ _ _ _ (bk.sub.at_ hi h) with ⟨n',g⟩|⟨v',xs',g2,g3,g4⟩
   ·exact .inl ⟨n',bk.An hi g⟩
   ·refine .inr ⟨v',xs',bk.An hi g2,g3,fun he=>?_⟩
    obtain ⟨k1,k2,k3⟩:=g4 he
    rw [dV hi,k1,ei hi]
    exact ⟨rfl,k2,fun b vs t hb hv=>k3 b vs t (by rw [ei hi]; exact hb) hv⟩
  ·rw [gk hi,bk.CN hi]
   exact .inr ⟨v,xs,h,Nat.le_refl _,fun _=>⟨rfl,rfl,fun b vs t hb hv=>⟨vs,(bk.mP (aj h) hi hb).1.trans hv,rfl⟩⟩⟩
 tags:=bk.ext.tags
 cu:=fun b off h=>by
  obtain ⟨h1,h2⟩:=bk.ext.cu b off (bk.sub.cu h)
  exact ⟨bk.cu h1,h2⟩
 mP:=fun b hb h=>by
  have h1:∀i,i<B.length->(down j M ids) i≠some b:=fun i _ he=>by
   obtain ⟨id,g1,g2⟩:=iU he
   exact h id (bk.Gn g1) g2
  obtain ⟨h2,h3⟩:=bk.ext.mP b hb h1
  refine ⟨h2,fun id hid he=>?_⟩
  rw [bk.jF] at hid
  by_cases hi:id∈ids
  ·rw [dV hi] at he
   exact h3 _ (by rw [bk.len,bk.sub.len]; exact lA hi) he
  ·rw [gk hi] at he
   exact h id hid he
def nG.qx {i:Nat} (h:i<B'.length):∃id,ids[i]?=some id/\id∈ids/\pn ids i=id/\cM ids id=i:=by
 have hi:i<ids.length:=by rw [<-bk.sub.len,<-bk.len]; exact h
 have hg:=List.getElem?_eq_getElem hi
 exact ⟨_,hg,List.mem_of_getElem? hg,Qs hg,uo bk.sub.nodup hg⟩
def nG.LJ {x:ae} {v:Value} (h:bQ j2 B' w' x v) (hf:x.wR=true):bQ (F7 j j2 ids) (eJ ids M ids B') w' (x.jV (pn ids)) v:=by
 cases h with
 |plain h =>
  have:x.jV (pn ids)=x:=by cases h<;>rfl
  rw [this]
  exact .plain (h.mono fun b off hs=>⟨bk.cu hs,rfl⟩)
 |c0 A=>exact .c0 A
 | @own k xs v sz n hk hn hp ht =>
  obtain ⟨id,g1,g2,g3,g4⟩:=bk.qx (aj hk)
  simp only [ae.jV,g3]
  refine .own (sz:=sz) (n:=n) (bk.An g2 (b := .tick sz n) (by rw [g4]; exact hk)) hn (hp.mono fun b off hs=>⟨bk.cu hs,rfl⟩) fun he=>?_
  rcases ht he with ⟨e1,e2,e3⟩|⟨b,cap,vs,t,e1,e2,e3,e4,e5⟩
  ·exact .inl ⟨by rw [dV g2,g4]; exact e1,e2,e3⟩
  ·exact .inr ⟨b,cap,vs,t,by rw [dV g2,g4]; exact e1,e2,e3,e4,e5⟩
 | @bI k t b v hc hj hk hv =>
  obtain ⟨cs,hc⟩:=hc
  obtain ⟨id,g1,g2,g3,g4⟩:=bk.qx (aj hc)
  simp only [ae.jV,g3]
  exact .bI ⟨_,bk.An g2 (b := .cells cs) (by rw [g4]; exact hc)⟩ (by rw [dV g2,g4]; exact hj) hk hv
 | @dI t k off b hc hj =>
  obtain ⟨cs,hc⟩:=hc
  obtain ⟨id,g1,g2,g3,g4⟩:=bk.qx (aj hc)
  simp only [ae.jV,g3]
  exact .dI ⟨_,bk.An g2 (b := .cells cs) (by rw [g4]; exact hc)⟩ (by rw [dV g2,g4]; exact hj)
 | @cA k t n x l v hk hn hp ht =>
  obtain ⟨id,g1,g2,g3,g4⟩:=bk.qx (aj hk)
  simp only [ae.jV,g3]
  refine .cA (n:=n) (bk.An g2 (b := .tick 1 n) (by rw [g4]; exact hk)) hn (hp.mono fun b off hs=>⟨bk.cu hs,rfl⟩) fun he=>?_
  rcases ht he with ⟨e1,e2,e3⟩|⟨b,cap,vs,e0,e1,e2,e3,e4,e5⟩
  ·exact .inl ⟨by rw [dV g2,g4]; exact e1,e2,e3⟩
  ·exact .inr ⟨b,cap,vs,e0,by rw [dV g2,g4]; exact e1,e2,e3,e4,e5⟩
 |agg=>cases hf
 |tuple=>cases hf
 | @ptr k off b hid hc hj =>
  obtain ⟨id,g1,g2,g3,g4⟩:=bk.qx hid
  obtain ⟨cs,hc⟩:=hc
  simp only [ae.jV,g3]
  exact .ptr (by rw [bk.jF]; exact bk.Gn g1) ⟨_,bk.An g2 (b := .cells cs) (by rw [g4]; exact hc)⟩ (by rw [dV g2,g4]; exact hj)
 |cW h=>exact .cW fun k c hk=>⟨(h k c hk).1,bk.cu (h k c hk).2.1,(h k c hk).2.2.mono fun b off hs=>⟨bk.cu hs,rfl⟩⟩
 |func=>cases hf
 | @cz k b hc hj =>
  obtain ⟨ks,vs,hc⟩:=hc
  obtain ⟨id,g1,g2,g3,g4⟩:=bk.qx (aj hc)
  simp only [ae.jV,g3]
  exact .cz ⟨_,_,bk.An g2 (b := .map ks vs) (by rw [g4]; exact hc)⟩ (by rw [dV g2,g4]; exact hj)
 | @dp k b hc hj =>
  obtain ⟨st,p,hc⟩:=hc
  obtain ⟨id,g1,g2,g3,g4⟩:=bk.qx (aj hc)
  simp only [ae.jV,g3]
  exact .dp ⟨_,_,bk.An g2 (b := .fB st p) (by rw [g4]; exact hc)⟩ (by rw [dV g2,g4]; exact hj)
 |iA hl hd=>exact .iA hl fun i c v h1 h2=>(hd i c v h1 h2).mono fun b off hs=>⟨bk.cu hs,rfl⟩
 | @du ks vs b es cl hb hfr hx hw hk hv hks hvs =>
  rw [bk.ext.X] at hx
  refine .du hb (fun id hid he=>?_) (fun off hx'=>hx off (.inl hx')) hw hk hv (fun i k e h1 h2=>(hks i k e h1 h2).mono fun b off hs=>⟨bk.cu hs,rfl⟩) (fun i k e h1 h2=>(hvs i k e h1 h2).mono fun b off hs=>⟨bk.cu hs,rfl⟩)
  rw [bk.jF] at hid
  by_cases m:id∈ids
  ·rw [dV m] at he
   exact hfr _ (by rw [bk.len,bk.sub.len]; exact lA m) he
  ·rw [gk m] at he
   by_cases ht:∃sz n,M[id]?=some (.tick sz n)
   ·obtain ⟨sz,n,ht⟩:=ht
    refine hx (n*sz) (.inr ⟨id,hid,m,he,?_⟩)
    rintro ⟨sz',n',h1,h2⟩
    rw [ht] at h1; injection h1 with h1; injection h1 with e1 e2
    subst e1; subst e2
    exact Nat.lt_irrefl _ h2
   ·exact hx 0 (.inr ⟨id,hid,m,he,fun ⟨sz,n,h1,_⟩=>ht ⟨sz,n,h1⟩⟩)
 | @aZ k ver sz0 lo hi v h0 hid hM hv =>
  obtain ⟨id,g1,g2,g3,g4⟩:=bk.qx hid
  have hb:=List.getElem?_eq_getElem hid
  have hin:=bk.An g2 (b:=B'[k]) (by rw [g4]; exact hb)
  rw [pa (hM _ hb)] at hin
  simp only [ae.jV,g3]
  refine .aZ h0 (by rw [bk.jF]; exact bk.Gn g1) (fun bx hbx=>?_) fun sz v' xs h=>?_
  ·rw [hin] at hbx; exact hM bx (hb.trans hbx)
  ·rw [hin] at h
   obtain ⟨k1,k2⟩:=hv sz v' xs (hb.trans h)
   exact ⟨k1,fun he=>by
    obtain ⟨l0,l1,l2,⟨l3,l4,l5⟩|⟨b,cap,vs,t,l3,r⟩⟩:=k2 he
    ·exact ⟨l0,l1,l2,.inl ⟨l3,by rw [dV g2,g4]; exact l4,l5⟩⟩
    exact ⟨l0,l1,l2,.inr ⟨b,cap,vs,t,by rw [dV g2,g4]; exact l3,r⟩⟩⟩
 | @cV k ver i off v h0 hid hM hv =>
  obtain ⟨id,g1,g2,g3,g4⟩:=bk.qx hid
  have hb:=List.getElem?_eq_getElem hid
  have hin:=bk.An g2 (b:=B'[k]) (by rw [g4]; exact hb)
  rw [pa (hM _ hb)] at hin
  simp only [ae.jV,g3]
  refine .cV h0 (by rw [bk.jF]; exact bk.Gn g1) (fun bx hbx=>?_) fun sz v' xs h=>?_
  ·rw [hin] at hbx; exact hM bx (hb.trans hbx)
  ·rw [hin] at h
   obtain ⟨k1,k2⟩:=hv sz v' xs (hb.trans h)
   exact ⟨k1,fun he=>by
    obtain ⟨l1,b,l3,r⟩:=k2 he
    exact ⟨l1,b,by rw [dV g2,g4]; exact l3,r⟩⟩
 |any v=>exact .any v
def nG.CS {x:ae} {v:Value} (h:bQ j2 B' w' x v) (hf:x.nu=true):bQ (F7 j j2 ids) (eJ ids M ids B') w' (x.km (pn ids)) v:=by
 by_cases hfn:∃f caps,x = .func f caps
 ·obtain ⟨f,caps,rfl⟩:=hfn
  obtain ⟨vs,rfl,hl,hc⟩:=h.jR
  refine .func (by simpa using hl) fun i c u hci hu=>?_
  rw [List.getElem?_map,Option.map_eq_some_iff] at hci
  obtain ⟨c0,hc0,rfl⟩:=hci
  exact bk.LJ (hc i c0 u hc0 hu) (List.all_eq_true.1 hf c0 (List.mem_of_getElem? hc0))
 ·have e1:x.km (pn ids)=x.jV (pn ids):=by cases x<;>first|rfl|exact absurd ⟨_,_,rfl⟩ hfn
  have e3:x.wR=true:=by cases x<;>first|rfl|exact absurd ⟨_,_,rfl⟩ hfn|cases hf
  rw [e1]
  exact bk.LJ h e3
def nG.rep {x:ae} {v:Value} (h:bQ j2 B' w' x v) (hf:x.flat=true):bQ (F7 j j2 ids) (eJ ids M ids B') w' (x.ik (pn ids)) v:=by
 by_cases hag:∃cs,x = .agg cs
 ·obtain ⟨cs,rfl⟩:=hag
  obtain ⟨vs,rfl,hl,hc⟩:=h.eK
  refine .agg (by simpa using hl) fun i c u hci hu=>?_
  rw [List.getElem?_map,Option.map_eq_some_iff] at hci
  obtain ⟨c0,hc0,rfl⟩:=hci
  exact bk.CS (hc i c0 u hc0 hu) (List.all_eq_true.1 hf c0 (List.mem_of_getElem? hc0))
 ·have e1:x.ik (pn ids)=x.km (pn ids):=by cases x<;>first|rfl|exact absurd ⟨_,rfl⟩ hag
  have e3:x.nu=true:=by cases x<;>first|exact hf|exact absurd ⟨_,rfl⟩ hag
  rw [e1]
  exact bk.CS h e3
def nG.aeG {x:ae} {v:Value} (h:bQ j2 B' w' x v) (hf:x.pB=true):bQ (F7 j j2 ids) (eJ ids M ids B') w' (x.ui (pn ids)) v:=by
 by_cases ht:∃vs,x = .tuple vs
 ·obtain ⟨cs,rfl⟩:=ht
  obtain ⟨vs,rfl,hl,hc⟩:=h.kD
  refine .tuple (by simpa using hl) fun i c u hci hu=>?_
  rw [List.getElem?_map,Option.map_eq_some_iff] at hci
  obtain ⟨c0,hc0,rfl⟩:=hci
  exact bk.rep (hc i c0 u hc0 hu) (List.all_eq_true.1 hf c0 (List.mem_of_getElem? hc0))
 ·have e1:x.ui (pn ids)=x.ik (pn ids):=by cases x<;>first|rfl|exact absurd ⟨_,rfl⟩ ht
  have e3:x.flat=true:=by cases x<;>first|exact hf|exact absurd ⟨_,rfl⟩ ht
  rw [e1]
  exact bk.rep h e3
def nG.Zv:Rel (F7 j j2 ids) (eJ ids M ids B') w':=by
 have ltin:∀ {id:Nat},id∈ids->cM ids id<B'.length:=fun h=>by rw [bk.len,bk.sub.len]; exact lA h
 refine ⟨fun id id' b hi hi' h h'=>?_,fun id b hi h=>?_,fun id cb h hf=>?_,fun id sz n b h hj=>?_,fun id sz ver xs h=>?_,fun id b hi h off hx=>?_,fun b off h=>Nat.lt_of_lt_of_le (bk.hr.qo b off h) bk.ext.size⟩
 ·rw [bk.jF] at hi hi'
  by_cases m:id∈ids<;>by_cases m':id'∈ids
  ·rw [dV m] at h
   rw [dV m'] at h'
   have:=bk.rel.inj _ _ b (ltin m) (ltin m') h h'
   rw [<-Dd m,this,Dd m']
  ·rw [dV m] at h
   rw [gk m'] at h'
   exact absurd h ((bk.mP hi' m' h').2 _ (ltin m))
  ·rw [gk m] at h
   rw [dV m'] at h'
   exact absurd h' ((bk.mP hi m h).2 _ (ltin m'))
  ·rw [gk m] at h
   rw [gk m'] at h'
   exact bk.hr.inj id id' b hi hi' h h'
 ·rw [bk.jF] at hi
  by_cases m:id∈ids
  ·rw [dV m] at h; exact bk.rel.lt _ b (ltin m) h
  ·rw [gk m] at h; exact Nat.lt_of_lt_of_le (bk.hr.lt id b hi h) bk.ext.size
 ·by_cases m:id∈ids
  ·obtain ⟨bx,h1,h2⟩:=bk.some_ m
   rw [bk.An m h1] at h
   injection h with h
   subst h
   have hfx:bx.fixed=true:=by cases bx<;>first|rfl|cases hf
   obtain ⟨b,g1,g2⟩:=bk.rel.fix _ bx h1 hfx
   refine ⟨b,by rw [dV m]; exact g1,?_⟩
   cases bx with
   |tick sz n=>cases hf
   |cells cs0 =>
    obtain ⟨vs,t,k1,k2,k3⟩:=g2
    refine ⟨vs,t,k1,by simpa using k2,fun q c v hc hv=>?_⟩
    rw [List.getElem?_map,Option.map_eq_some_iff] at hc
    obtain ⟨c0,hc0,rfl⟩:=hc
    exact bk.CS (k3 q c0 v hc0 hv) (List.all_eq_true.1 h2 c0 (List.mem_of_getElem? hc0))
   |map ks vs =>
    obtain ⟨es,cl,k1,k2,k3,k4,k5⟩:=g2
    refine ⟨es,cl,k1,k2,by simpa using k3,fun q c e hc he=>(k4 q c e hc he).mono fun b off hs=>⟨bk.cu hs,rfl⟩,fun q c e hc he=>?_⟩
    rw [List.getElem?_map,Option.map_eq_some_iff] at hc
    obtain ⟨c0,hc0,rfl⟩:=hc
    exact bk.rep (k5 q c0 e hc0 he) (List.all_eq_true.1 h2 c0 (List.mem_of_getElem? hc0))
   |fB st pos=>exact g2
   |mO=>cases hf
   |arr=>cases hf
  ·rw [bk.CN m] at h
   obtain ⟨b,g1,g2⟩:=bk.hr.fix id cb h hf
   exact ⟨b,by rw [gk m]; exact g1,g2.mono bk.M1 (bk.mP (aj h) m g1).1⟩
 ·by_cases m:id∈ids
  ·obtain ⟨bx,h1,h2⟩:=bk.some_ m
   rw [bk.An m h1] at h
   injection h with h
   rw [dV m] at hj
   cases bx<;>first|cases h|skip
   exact bk.rel.tick _ _ _ b h1 hj
  ·rw [bk.CN m] at h
   rw [gk m] at hj
   obtain ⟨vs,t,g⟩:=bk.hr.tick id sz n b h hj
   exact ⟨vs,t,(bk.mP (aj h) m hj).1.trans g⟩
 ·by_cases m:id∈ids
  ·obtain ⟨bx,h1,h2⟩:=bk.some_ m
   rw [bk.An m h1] at h
   injection h with h
   cases bx<;>first|cases h|skip
   obtain ⟨g0,g1⟩|⟨b,vs,t,g1,g2,g3,g4,g5⟩:=bk.rel.arr _ _ _ _ h1
   ·exact .inl ⟨by rw [g0],by rw [dV m]; exact g1⟩
   exact .inr ⟨b,vs,t,by rw [dV m]; exact g1,g2,g3,g4,fun q x k c hx hk=>(g5 q x k c hx hk).imp fun u hu=>⟨hu.1,hu.2.mono fun b off hs=>⟨bk.cu hs,rfl⟩⟩⟩
  ·rw [bk.CN m] at h
   exact ia bk.hr bk.M1 h (gk m) fun b hb=>(bk.mP (aj h) m hb).1
 ·rw [bk.jF] at hi
  by_cases m:id∈ids
  ·rw [dV m] at h
   have:=bk.rel.lY _ b (ltin m) h off
   rw [bk.ext.X] at this
   exact this (.inl hx)
  ·rw [gk m] at h
   exact bk.hr.lY id b hi h off hx
end
def xM {ρ:Nat->Nat} {x:ae} (h:x.cm=[]):x.jV ρ=x:=by
 cases x with
 |slice tk xs=>cases tk<;>first|rfl|(simp [ae.cm] at h)
 |ptr=>simp [ae.cm] at h
 |cz=>simp [ae.cm] at h
 |dp=>simp [ae.cm] at h
 |aZ=>simp [ae.cm] at h
 |cV=>simp [ae.cm] at h
 |bI=>simp [ae.cm] at h
 |cA=>simp [ae.cm] at h
 |dI=>simp [ae.cm] at h
 |_=>rfl
def AG {ρ:Nat->Nat}:∀ {l:List ae},l.flatMap ae.cm=[]->l.map (ae.jV ρ)=l
 | [],_=>rfl
 |c::r,h=>by
  rw [List.flatMap_cons,List.append_eq_nil_iff] at h
  rw [List.map_cons,xM h.1,AG h.2]
def xN {ρ:Nat->Nat} {x:ae} (h:x.fz=[]):x.km ρ=x:=by
 by_cases hf:∃f caps,x = .func f caps
 ·obtain ⟨f,caps,rfl⟩:=hf
  exact congrArg (ae.func f) (AG h)
 ·have e1:x.km ρ=x.jV ρ:=by cases x<;>first|rfl|exact absurd ⟨_,_,rfl⟩ hf
  have e2:x.fz=x.cm:=by cases x<;>first|rfl|exact absurd ⟨_,_,rfl⟩ hf
  rw [e1]; exact xM (by rw [<-e2]; exact h)
def AH {ρ:Nat->Nat}:∀ {l:List ae},l.flatMap ae.fz=[]->l.map (ae.km ρ)=l
 | [],_=>rfl
 |c::r,h=>by
  rw [List.flatMap_cons,List.append_eq_nil_iff] at h
  rw [List.map_cons,xN h.1,AH h.2]
def A4 {ρ:Nat->Nat} {x:ae} (_:x.flat=true) (h:x.ids=[]):x.ik ρ=x:=by
 by_cases hf:∃cs,x = .agg cs
 ·obtain ⟨cs,rfl⟩:=hf
  exact congrArg ae.agg (AH h)
 ·have e1:x.ik ρ=x.km ρ:=by cases x<;>first|rfl|exact absurd ⟨_,rfl⟩ hf
  have e2:x.ids=x.fz:=by cases x<;>first|rfl|exact absurd ⟨_,rfl⟩ hf
  rw [e1]; exact xN (by rw [<-e2]; exact h)
def iQ {P:Program} {C:bt} (hC:hU P C) {j:J} {M:ag} {w:World} {f:Nat} {vs:List ae} {us:Array Value} {x:ae×ag} (hr:Rel j M w) (hG:j4 j M w) (h:ak C f vs M=some x)
  (hl:vs.length=us.size) (hv:∀(i:Nat) (c:ae) (u:Value),vs[i]?=some c->us[i]?=some u->bQ j M w c u) :
  fu P f=true/\Calls P f us w fun e w'=>mQ j M w x e w':=by
 unfold ak at h
 generalize hids:reach M (vs.flatMap ae.ids)=ids at h
 split at h
 ·rename_i hf
  obtain ⟨B,hB,h⟩:=au h
  split at h
  ·rename_i hcl
   obtain ⟨y,hy,h⟩:=au h
   split at h
   ·rename_i hcond
    obtain ⟨c1,c2,c3⟩:=hcond
    injection h with h; subst h
    obtain ⟨h1,h2⟩:=hC _ _ _ _ hy
    obtain ⟨p1,p2⟩:=vM hB
    have s:Sub j M w ids B:=⟨by rw [<-hids]; exact AO _ _,p1,p2,fun i b hi hb x hx=>EM hcl hi hb hx⟩
    refine ⟨h1,(h2 (down j M ids) w us (s.rel hr) (hG.cu fun b off h=>s.cu h) (by simpa using hl) fun i c u hc hu=>?_).mono ?_⟩
    ·rw [List.getElem?_map,Option.map_eq_some_iff] at hc
     obtain ⟨c0,hc0,rfl⟩:=hc
     have hm:=List.mem_of_getElem? hc0
     exact s.rep (hv i c0 u hc0 hu) (List.all_eq_true.1 hf c0 hm) fun q hq=>by rw [<-hids]; exact Fv (List.mem_flatMap.2 ⟨c0,hm,hq⟩)
    ·rintro e w' (⟨v,rfl,j2,g1,g2,g3⟩|⟨u,rfl,hu,j2,g1,g2⟩)
     ·have bk:nG j M B w ids j2 y.2 w':=⟨s,hr,g2,g1,c1,fun b hb=>List.all_eq_true.1 c3 b hb⟩
      exact .inl ⟨v,rfl,F7 j j2 ids,bk.Zv,bk.M1,bk.aeG g3 c2⟩
     ·have bk:nG j M B w ids j2 y.2 w':=⟨s,hr,g2,g1,c1,fun b hb=>List.all_eq_true.1 c3 b hb⟩
      exact .inr ⟨u,rfl,by show y.1.ui _=_; rw [hu]; rfl,F7 j j2 ids,bk.Zv,bk.M1⟩
   ·cases h
  ·cases h
 ·cases h
def LL {j j2:J} {G:ag} {w w':World} {p sz n:Nat} {xs:List ae} {v:Value} (hr:Rel j G w) (hp:G[p]?=some .mO) (h2:Rel j2 [.tick sz n] w') (hx:Ext (down j G []) [] w j2 [.tick sz n] w')
  (hv:bQ j2 [.tick sz n] w' (.slice (.own 0) xs) v):cG j G w (.slice (.own p) xs,G.set p (.tick sz n)) v w':=by
 have hpl:=aj hp
 have hold:∀b,b<w.heap.size->w'.heap[b]?=w.heap[b]?/\j2 0≠some b:=fun b hb=>by
  obtain ⟨h1,h3⟩:=hx.mP b hb (fun i hi=>by simp at hi)
  exact ⟨h1,h3 0 (by simp)⟩
 have up:∀i,i≠p->bX j p (j2 0) i=j i:=fun i hi=>by simp [bX,hi]
 have atp:bX j p (j2 0) p=j2 0:=by simp [bX]
 have nX:∀ {b off},fJ j2 [.tick sz n] w' b off->¬j.X b off/\∀id,id<G.length->j id=some b->∃sz n,G[id]?=some (.tick sz n)/\off<n*sz:=fun {b off} hs=>by
  have:=hs.nx
  rw [hx.X] at this
  refine ⟨fun h=>this (.inl h),fun id hid hj=>?_⟩
  by_cases hc:∃sz n,G[id]?=some (.tick sz n)/\off<n*sz
  ·exact hc
  ·exact absurd (Or.inr ⟨id,hid,by simp,hj,hc⟩) this
 have cu:∀b off,fJ j2 [.tick sz n] w' b off->fJ (bX j p (j2 0)) (G.set p (.tick sz n)) w' b off:=fun b off hs=>by
  obtain ⟨n1,n2⟩:=nX hs
  refine ⟨hs.lt,fun id hid hj=>?_,n1⟩
  by_cases e:id=p
  ·subst e
   rw [atp] at hj
   obtain ⟨s1,m1,h3,h4⟩:=hs.ids 0 (by simp) hj
   simp at h3
   exact ⟨sz,n,aU hpl,by rw [h3.1,h3.2]; exact h4⟩
  ·rw [up id e] at hj
   rw [aH (Ne.symm e)]
   exact n2 id (by simpa using hid) hj
 have q:Quiet w w':=⟨hx.size,hx.os,hx.tape,hx.output⟩
 have ext:Ext j G w (bX j p (j2 0)) (G.set p (.tick sz n)) w':={
  len:=by simp
  size:=q.size
  os:=q.os
  tape:=q.tape
  output:=q.output
  X:=rfl
  fix:=fun i bx h hf=>by
   have e:i≠p:=by rintro rfl; rw [hp] at h; injection h with h; subst h; cases hf
   exact ⟨up i e,bx,by rw [aH (Ne.symm e)]; exact h,rfl⟩
  tick:=fun i sz n h=>by
   have e:i≠p:=by rintro rfl; rw [hp] at h; cases h
   exact ⟨n,Nat.le_refl _,by rw [aH (Ne.symm e)]; exact h,fun _=>⟨up i e,fun b vs t _ hv=>⟨vs,(hold b (lt_of_block hv)).1.trans hv,rfl⟩⟩⟩
  arr:=fun i sz v xs h=>by
   have e:i≠p:=by rintro rfl; rw [hp] at h; cases h
   exact .inr ⟨v,xs,by rw [aH (Ne.symm e)]; exact h,Nat.le_refl _,fun _=>⟨up i e,rfl,fun b vs t _ hv=>⟨vs,(hold b (lt_of_block hv)).1.trans hv,rfl⟩⟩⟩
  tags:=fun b0 vs0 t0 fr0 h=>⟨vs0,fr0,(hold b0 (lt_of_block h)).1.trans h,rfl⟩
  cu:=fun b0 off h=>by
   refine ⟨⟨Nat.lt_of_lt_of_le h.1 q.size,fun id hid hj=>?_,h.3⟩,World.cell?_of_block (w:=w) (hold b0 h.1).1⟩
   by_cases e:id=p
   ·subst e; rw [atp] at hj; exact absurd hj (hold b0 h.1).2
   ·rw [aH (Ne.symm e)]
    rw [up id e] at hj
    exact h.2 id (by simpa using hid) hj
  mP:=fun b0 hlt h=>by
   refine ⟨(hold b0 hlt).1,fun i hi hj=>?_⟩
   by_cases e:i=p
   ·subst e; rw [atp] at hj; exact (hold b0 hlt).2 hj
   ·rw [up i e] at hj; exact h i (by simpa using hi) hj }
 refine ⟨bX j p (j2 0),⟨fun i i' b0 hi hi' h h'=>?_,fun i b0 hi h=>?_,fun i bx' h hf=>?_,fun i sz0 n0 b0 h hj=>?_,fun i sz0 ver ys h=>?_,fun i b0 hi h off hxx=>?_,fun b off h=>Nat.lt_of_lt_of_le (hr.qo b off h) q.size⟩,ext,?_⟩
 ·simp only [List.length_set] at hi hi'
  by_cases e:i=p<;>by_cases e':i'=p
  ·omega
  ·subst e
   rw [atp] at h; rw [up i' e'] at h'
   exact absurd h (hold b0 (hr.lt i' b0 hi' h')).2
  ·subst e'
   rw [atp] at h'; rw [up i e] at h
   exact absurd h' (hold b0 (hr.lt i b0 hi h)).2
  ·rw [up i e] at h; rw [up i' e'] at h'
   exact hr.inj i i' b0 hi hi' h h'
 ·simp only [List.length_set] at hi
  by_cases e:i=p
  ·subst e; rw [atp] at h; exact h2.lt 0 b0 (by simp) h
  ·rw [up i e] at h
   exact Nat.lt_of_lt_of_le (hr.lt i b0 hi h) q.size
 ·by_cases e:i=p
  ·subst e
   rw [aU hpl] at h
   injection h with h; subst h; cases hf
  ·rw [aH (Ne.symm e)] at h
   obtain ⟨b0,h1,h3⟩:=hr.fix i bx' h hf
   exact ⟨b0,by rw [up i e]; exact h1,h3.mono ext (hold b0 (hr.lt i b0 (aj h) h1)).1⟩
 ·by_cases e:i=p
  ·subst e; rw [atp] at hj
   exact h2.tick 0 sz n b0 rfl hj
  ·rw [aH (Ne.symm e)] at h
   rw [up i e] at hj
   obtain ⟨vs,t,h1⟩:=hr.tick i sz0 n0 b0 h hj
   exact ⟨vs,t,(hold b0 (lt_of_block h1)).1.trans h1⟩
 ·by_cases e:i=p
  ·subst e; rw [aU hpl] at h; cases h
  ·rw [aH (Ne.symm e)] at h
   exact ia hr ext h (up i e) fun b0 h1=>(hold b0 (hr.lt i b0 (aj h) h1)).1
 ·simp only [List.length_set] at hi
  by_cases e:i=p
  ·subst e; rw [atp] at h
   exact absurd h (hold b0 (hr.qo b0 off hxx)).2
  ·rw [up i e] at h
   exact hr.lY i b0 hi h off hxx
 ·cases hv with
  |plain h=>cases h
  |own hk hn h ht =>
   simp at hk
   obtain ⟨rfl,rfl⟩:=hk
   refine .own (aU hpl) hn (h.mono fun b off hs=>⟨cu b off hs,rfl⟩) fun he=>?_
   rcases ht he with ⟨h1,h3,h4⟩|⟨b,cap,vs,t,h1,h3,h4,h5,h6⟩
   ·exact .inl ⟨by rw [atp]; exact h1,h3,h4⟩
   ·exact .inr ⟨b,cap,vs,t,by rw [atp]; exact h1,h3,h4,h5,h6⟩
def FW {P:Program} {C:bt} (hC:hU P C) {j:J} {G:ag} {w:World} {f p:Nat} {vs:List ae} {us:Array Value} {xs:List ae} {sz n:Nat} (hr:Rel j G w) (hG:j4 j G w) (hp:G[p]?=some .mO) (hf:vs.all ae.flat=true) (hi:vs.flatMap ae.ids=[])
  (h:C f vs []=some (.slice (.own 0) xs,[.tick sz n])) (hl:vs.length=us.size) (hv:∀(i:Nat) (c:ae) (u:Value),vs[i]?=some c->us[i]?=some u->bQ j G w c u) :
  fu P f=true/\Calls P f us w fun e w'=>∃v,e = .returned v/\cG j G w (.slice (.own p) xs,G.set p (.tick sz n)) v w':=by
 obtain ⟨h1,h2⟩:=hC _ _ _ _ h
 have s:Sub j G w [] []:=⟨List.nodup_nil,rfl,fun i id h=>by simp at h,fun i b hi=>by simp at hi⟩
 have hren:vs.map (ae.ik (cM []))=vs:=by
  rw [List.map_congr_left (g:=id),List.map_id]
  intro c hc
  have hci:c.ids=[]:=List.flatMap_eq_nil_iff.1 hi c hc
  exact A4 (List.all_eq_true.1 hf c hc) hci
 refine ⟨h1,(h2 (down j G []) w us (s.rel hr) (hG.cu fun b off h=>s.cu h) hl fun i c u hc hu=>?_).mono ?_⟩
 ·have hm:=List.mem_of_getElem? hc
  have:=s.rep (hv i c u hc hu) (List.all_eq_true.1 hf c hm) fun q hq=>by
   have hci:c.ids=[]:=List.flatMap_eq_nil_iff.1 hi c hm
   rw [hci] at hq; cases hq
  rwa [A4 (List.all_eq_true.1 hf c hm) (List.flatMap_eq_nil_iff.1 hi c hm)] at this
 ·rintro e w' (⟨v,rfl,j2,g1,g2,g3⟩|⟨u,rfl,hu,_⟩)
  ·exact ⟨v,rfl,LL hr hp g1 g2 g3⟩
  ·cases hu
section
variable {P:Program} {C:bt} {o:Oper} {env:Env} {M:ag} {j:J} {w:World} {a:Act} {x:ae×ag}
def tj:∀ {xs:List ae} {l:List UInt8},bytesOf xs=some l->l.length=xs.length/\∀(i:Nat) (x:ae),xs[i]?=some x->∃n,x = .int .u8 n/\l[i]?=some (UInt8.ofNat n.toNat)
 | [],l,h=>by simp [bytesOf] at h; subst h; exact ⟨rfl,fun i x h=>by simp at h⟩
 |y::r,l,h=>by
  unfold bytesOf at h
  split at h
  ·rename_i e; cases e
  ·rename_i n r' e
   injection e with e1 e2; subst e1; subst e2
   obtain ⟨l',h1,h⟩:=au h
   injection h with h; subst h
   obtain ⟨g1,g2⟩:=tj h1
   refine ⟨by simp [g1],fun i x hx=>?_⟩
   cases i with
   |zero=>simp at hx; exact ⟨n,hx.symm,by simp⟩
   |succ i=>simpa using g2 i x (by simpa using hx)
  ·cases h
def xF (g:Value->ByteArray->Sem (ForInStep ByteArray)) (hg:∀n s,g (.int .u8 n) s=pure (ForInStep.yield (s.push (UInt8.ofNat n.toNat)))):∀(vs:List Value) (l:List UInt8) (s:ByteArray),vs.length=l.length->(∀(i:Nat) (v:Value) (b:UInt8),vs[i]?=some v->l[i]?=some b->∃n,v = .int .u8 n/\b=UInt8.ofNat n.toNat) ->
  (forIn vs s g).run P w = .ok ⟨s.data++l.toArray⟩ w
 | [],[],s,_,_=>by simp
 |v::vs,b::l,s,hl,h=>by
  obtain ⟨n,rfl,rfl⟩:=h 0 v b rfl rfl
  rw [List.forIn_cons,hg]
  simp only [Sem.run_bind,Sem.run_pure,Result.andThen_ok]
  have:=xF g hg vs l (s.push (UInt8.ofNat n.toNat)) (by simpa using hl) fun i v b hv hb=>h (i+1) v b (by simpa using hv) (by simpa using hb)
  refine this.trans ?_
  congr 1
  simp [ByteArray.push]
 | [],_::_,_,hl,_=>by simp at hl
 |_::_,[],_,hl,_=>by simp at hl
def SZ (hr:Rel j M w) (he:aL j M w env a) {s d e:TypeId} {y:Operand} {z:cj} (hop:o.op = .convert s d y) (hs:P.underlying s=some (.slice e)) (hd:P.underlying d=some .string) (hu:P.underlying e=some (.int .u8))
  (hz:bo y=some z) (h:bd C env M (.T1 z)=some x):∃v w',im P o a w v w'/\cG j M w x v w':=by
 simp only [bd] at h
 have h1:=aN he hz
 split at h
 ·rename_i tk xs ev
  obtain ⟨l,hl,h⟩:=au h
  injection h with h; subst h
  rw [ev] at h1
  obtain ⟨g1,g2⟩:=tj hl
  refine ⟨.string (bs l),w,.inl ?_,.still hr (.plain (.str _))⟩
  obtain ⟨A,cap,b,off,sz,vs,hv,hc,ha,hwid,hcell,hrep⟩:=h1.bg.bg
  have hrun:(Conv.bytesToString (a.eval y)).run P w = .ok (.string (bs l)) w:=by
   rw [hv]
   cases A with
   |none =>
    have:xs=[]:=by
     cases xs with
     |nil=>rfl
     |cons c r=>cases ha (by simp)
    subst this
    have:l=[]:=List.eq_nil_of_length_eq_zero g1
    subst this
    simp [Conv.bytesToString,bs]
    rfl
   |some A =>
    have hload:∃us:Array Value,(loadCells A xs.length).run P w = .ok us w/\us.size=l.length/\∀(i:Nat) (v:Value) (b:UInt8),us[i]?=some v->l[i]?=some b->∃n,v = .int .u8 n/\b=UInt8.ofNat n.toNat:=by
     by_cases hx:xs=[]
     ·subst hx
      have:l=[]:=List.eq_nil_of_length_eq_zero g1
      subst this
      exact ⟨#[],by simp [loadCells,loadCellsFrom],rfl,fun i v b h=>by simp at h⟩
     ·have hA:=ha hx
      injection hA with hA; subst hA
      have hsz:sz=1:=by
       cases xs with
       |nil=>exact absurd rfl hx
       |cons c r =>
        obtain ⟨n,rfl,_⟩:=g2 0 c rfl
        exact (hwid (.int .u8 n) (by simp)).symm
      subst hsz
      have cellOf:∀i,i<xs.length->∃n,w.cell? ⟨b,off+i,none⟩=some (vs i)/\vs i = .int .u8 n/\l[i]?=some (UInt8.ofNat n.toNat):=by
       intro i hi
       have hxi:xs[i]?=some xs[i]:=List.getElem?_eq_getElem hi
       obtain ⟨n,hn,hb⟩:=g2 i _ hxi
       have q1:=hcell i _ 0 (.int .u8 n) hxi (by rw [hn]; rfl)
       have q2:=hrep i _ 0 (.int .u8 n) hxi (by rw [hn]; rfl)
       simp only [Nat.mul_one,Nat.add_zero] at q1 q2
       exact ⟨n,q1.1,(bQ.plain (j:=j) (M:=M) q2).bH,hb⟩
      refine ⟨_,ij (P:=P) (w:=w) b off xs.length vs (fun k hk=>(cellOf k hk).choose_spec.1),by simp [g1],fun i v c hi hb=>?_⟩
      have hlt:i<xs.length:=by rw [<-g1]; exact aj hb
      obtain ⟨n,q1,q2,q3⟩:=cellOf i hlt
      have:v=vs i:=by simp [hlt] at hi; exact hi.symm
      rw [q3] at hb; injection hb with hb
      exact ⟨n,this.trans q2,hb.symm⟩
    obtain ⟨us,u1,u2,u3⟩:=hload
    simp only [Conv.bytesToString,Sem.run_bind,u1,Result.andThen_ok]
    rw [<-Array.forIn_toList]
    refine (congrArg (fun r=>Result.andThen r _) (xF (P:=P) (w:=w) _ ?_ us.toList l ByteArray.empty (by simpa using u2) fun i v b hv hb=>u3 i v b (by simpa using hv) hb)).trans ?_
    ·intro n s; rfl
    ·simp [bs]
  simp only [execOp,hop,convert,Sem.run_bind,bf hs,bf hd,Result.andThen_ok]
  rw [hv] at hrun ⊢
  cases A<;>simp [bf hu,hrun]
 ·cases h
def uX {fk:FK} {k k':ae} {b:Bool} (h:fq fk k k'=some b) :
  (∃t x y,k = .int t x/\k' = .int t y/\fk = .i/\b=(x==y))\/(∃x y,k = .str x/\k' = .str y/\fk = .s/\b=(x==y))\/∃x y,k = .bool x/\k' = .bool y/\fk = .b/\b=(x==y):=by
 unfold fq at h
 split at h
 ·split at h
  ·rename_i e; subst e; injection h with h; exact .inl ⟨_,_,_,rfl,rfl,rfl,h.symm⟩
  ·cases h
 ·injection h with h; exact .inr (.inl ⟨_,_,rfl,rfl,rfl,h.symm⟩)
 ·injection h with h; exact .inr (.inr ⟨_,_,rfl,rfl,rfl,h.symm⟩)
 ·cases h
def FK.is:FK->TypeDesc->Prop
 | .i,.int _=>True
 | .s,.string=>True
 | .b,.bool=>True
 |_,_=>False
def xj {t:TypeId} {fk:FK} (h:vq P t=some fk):∃d,P.underlying t=some d/\fk.is d:=by
 unfold vq at h
 split at h<;>first
  |(rename_i hd; injection h with h; subst h; exact ⟨_,hd,trivial⟩)
  |cases h
def Bb {fk:FK} {d:TypeDesc} (hd:fk.is d) {k k':ae} {b:Bool} (h:fq fk k k'=some b) {cu:Nat->Nat->Prop} {v v':Value} (hv:bQ j M w k v) (hv':bF w cu k' v') :
  Instr.sameNow d v v'=some b/\(b=true->Instr.sameBits 10000 v' v=true)/\bF w (fJ j M w) k v:=by
 rcases uX h with ⟨t,x,y,rfl,rfl,rfl,rfl⟩|⟨x,y,rfl,rfl,rfl,rfl⟩|⟨x,y,rfl,rfl,rfl,rfl⟩
 ·have e1:=hv.bH; subst e1; cases hv'
  cases d<;>first|exact False.elim hd|skip
  exact ⟨by simp [Instr.sameNow],fun h=>by simp at h; subst h; simp [Instr.sameBits],.int _ _⟩
 ·have e1:=hv.dx; subst e1; cases hv'
  cases d<;>first|exact False.elim hd|skip
  have this:∀x y,(bs x==bs y)=(x==y):=fun x y=>by
   show (x.toArray==y.toArray)=(x==y)
   simp
  exact ⟨by simp [Instr.sameNow,this],fun h=>by simp at h; subst h; simp [Instr.sameBits,this],.str _⟩
 ·have e1:=hv.df; subst e1; cases hv'
  cases d<;>first|exact False.elim hd|skip
  exact ⟨by simp [Instr.sameNow],fun h=>by simp at h; subst h; simp [Instr.sameBits],.bool _⟩
def Fj {fk:FK} {k:ae} {b:Bool} (h:fq fk k k=some b) {v:Value} (hv:bQ j M w k v):bF w (fJ j M w) k v:=by
 rcases uX h with ⟨t,x,y,rfl,_⟩|⟨x,y,rfl,_⟩|⟨x,y,rfl,_⟩
 ·have:=hv.bH; subst this; exact .int _ _
 ·have:=hv.dx; subst this; exact .str _
 ·have:=hv.df; subst this; exact .bool _
def wJ {fk:FK} {d:TypeDesc} (hd:fk.is d) {t:TypeId} (ht:P.underlying t=some d) (e:Bool) (v:Value):(Instr.checkKey e 10000 t v).run P w = .ok () w:=by
 rw [Instr.checkKey.eq_def]
 simp only [Sem.run_bind,bf ht,Result.andThen_ok]
 cases fk<;>cases d<;>first|exact False.elim hd|(cases v<;>rfl)
def zU {fk:FK} {d:TypeDesc} (hd:fk.is d) {k:ae} {v:Value} (hv:bQ j M w k v) {cu:Nat->Nat->Prop}:∀ {ks vs:List ae} {es:List MapEntry} {r:Option ae} (n:Nat),p9 fk k ks vs=some r ->
  ks.length=es.length->vs.length=es.length->(∀(i:Nat) (k:ae) (e:MapEntry),ks[i]?=some k->es[i]?=some e->bF w cu k e.key) ->
  (r=none/\Instr.findNow d v es n=some none)\/∃i u e,r=some u/\vs[i]?=some u/\es[i]?=some e/\Instr.findNow d v es n=some (some (n+i,e.val))
 | [],[],[],r,n,h,_,_,_=>by simp [p9] at h; exact .inl ⟨h.symm,rfl⟩
 |k'::ks,u::vs,e::es,r,n,h,h1,h2,h3=>by
  rw [p9] at h
  obtain ⟨b,hb,h⟩:=au h
  obtain ⟨s1,_⟩:=Bb hd hb hv (h3 0 k' e rfl rfl)
  rcases dw h with ⟨rfl,h⟩|⟨rfl,h⟩
  ·injection h with h
   exact .inr ⟨0,u,e,h.symm,rfl,rfl,by simp [Instr.findNow,s1]⟩
  ·have hf:Instr.findNow d v (e::es) n=Instr.findNow d v es (n+1):=by rw [Instr.findNow,s1]
   rcases zU hd hv (n+1) h (by simpa using h1) (by simpa using h2) (fun i k e hk he=>h3 (i+1) k e (by simpa using hk) (by simpa using he)) with ⟨g1,g2⟩|⟨i,u',e',g1,g2,g3,g4⟩
   ·exact .inl ⟨g1,hf.trans g2⟩
   ·exact .inr ⟨i+1,u',e',g1,by simpa using g2,by simpa using g3,by rw [hf,g4]; simp; omega⟩
 | [],_::_,[],_,_,_,_,h2,_=>by simp at h2
 |_::_,[],_::_,_,_,_,_,h2,_=>by simp at h2
 | [],_,_::_,_,_,_,h1,_,_=>by simp at h1
 |_::_,_,[],_,_,_,h1,_,_=>by simp at h1
def zV {fk:FK} {d:TypeDesc} (hd:fk.is d) {k y:ae} {v:Value} (hv:bQ j M w k v) {cu:Nat->Nat->Prop}:∀ {ks vs:List ae} {es:List MapEntry} {r:List ae×List ae} (n:Nat),om fk k y ks vs=some r ->
  ks.length=es.length->vs.length=es.length->(∀(i:Nat) (k:ae) (e:MapEntry),ks[i]?=some k->es[i]?=some e->bF w cu k e.key) ->
  bF w (fJ j M w) k v/\((r=(ks++[k],vs++[y])/\Instr.findNow d v es n=some none)\/∃i e,r=(ks.set i k,vs.set i y)/\es[i]?=some e/\Instr.sameBits 10000 e.key v=true/\Instr.findNow d v es n=some (some (n+i,e.val)))
 | [],[],[],r,n,h,_,_,_=>by
  rw [om] at h
  obtain ⟨b,hb,h⟩:=au h
  injection h with h
  exact ⟨Fj hb hv,.inl ⟨h.symm,rfl⟩⟩
 |k'::ks,u::vs,e::es,r,n,h,h1,h2,h3=>by
  rw [om] at h
  obtain ⟨b,hb,h⟩:=au h
  obtain ⟨s1,s2,s3⟩:=Bb hd hb hv (h3 0 k' e rfl rfl)
  refine ⟨s3,?_⟩
  rcases dw h with ⟨rfl,h⟩|⟨rfl,h⟩
  ·injection h with h
   exact .inr ⟨0,e,h.symm,rfl,s2 rfl,by simp [Instr.findNow,s1]⟩
  ·obtain ⟨r',h',h⟩:=au h
   injection h with h; subst h
   have hf:Instr.findNow d v (e::es) n=Instr.findNow d v es (n+1):=by rw [Instr.findNow,s1]
   rcases (zV hd hv (n+1) h' (by simpa using h1) (by simpa using h2) (fun i k e hk he=>h3 (i+1) k e (by simpa using hk) (by simpa using he))).2 with ⟨g1,g2⟩|⟨i,e',g1,g2,g3,g4⟩
   ·exact .inl ⟨by rw [g1]; rfl,hf.trans g2⟩
   ·exact .inr ⟨i+1,e',by rw [g1]; rfl,by simpa using g2,g3,by rw [hf,g4]; simp; omega⟩
 | [],_::_,[],_,_,_,_,h2,_=>by simp at h2
 |_::_,[],_::_,_,_,_,_,h2,_=>by simp at h2
 | [],_,_::_,_,_,_,h1,_,_=>by simp at h1
 |_::_,_,[],_,_,_,h1,_,_=>by simp at h1
def ud.rep {x:ae} {v:Value} (h:ud w (fJ j M w) x v):bQ j M w x v:=by
 by_cases hag:∃cs,x = .agg cs
 ·obtain ⟨cs,rfl⟩:=hag
  obtain ⟨us,rfl,h2,h3⟩:=h
  exact .agg h2 fun i c u hc hu => .plain (h3 i c u hc hu)
 ·cases x<;>first|exact absurd ⟨_,rfl⟩ hag|exact .plain h
def xu (hr:Rel j M w) {m:ae} {v:Value} {e:List ae×List ae} (h:mapOf M m=some e) (hm:bQ j M w m v):∃(b:Nat) (es:Array MapEntry) (clock:Nat),v = .map (some b)/\w.heap[b]?=some (.map es clock) /\
  e.1.length=es.size/\e.2.length=es.size/\(∀(i:Nat) (k:ae) (e':MapEntry),e.1[i]?=some k->es[i]?=some e'->bF w (fJ j M w) k e'.key)/\∀(i:Nat) (k:ae) (e':MapEntry),e.2[i]?=some k->es[i]?=some e'->bQ j M w k e'.val:=by
 unfold mapOf at h
 split at h
 ·split at h
  ·rename_i ks vs hM
   injection h with h; subst h
   rw [bE] at hM
   obtain ⟨b,_,hj,rfl⟩:=hm.mB
   obtain ⟨b',hj',es,clock,g1,g2,g3,g4,g5⟩:=hr.fix _ _ hM rfl
   rw [hj] at hj'; injection hj' with hj'; subst hj'
   exact ⟨_,es,clock,rfl,g1,g2,g3,g4,g5⟩
  ·cases h
 ·injection h with h; subst h
  cases hm with
  |plain h=>cases h
  |du hb hf hx hw hk hv hks hvs=>exact ⟨_,_,_,rfl,hw,hk,hv,hks,fun i k e h1 h2=>(hvs i k e h1 h2).rep⟩
 ·cases h
def AF {zero:ae} {ok:Bool} {r:Option ae} {v:Value} (h:bQ j M w (r.getD zero) v):bQ j M w (ja zero ok r) (if ok then .tuple #[v,.bool r.isSome] else v):=by
 cases ok with
 |false=>exact h
 |true =>
  refine .tuple rfl fun i c u hc hu=>?_
  match i with
  |0=>simp at hc hu; subst hc; subst hu; exact h
  |1=>simp at hc hu; subst hc; subst hu; exact .plain (.bool _)
  |n+2=>simp at hc
def OD (hr:Rel j M w) (he:aL j M w env a) {t kt et:TypeId} {m k:Operand} {m' k':cj} {ok:Bool} {fk:FK} {ie:TypeInfo} {zv:Value} {z:ae} (hop:o.op = .lookup t m k ok) (ht:P.underlying t=some (.map kt et))
  (hk:vq P kt=some fk) (hi:P.info? et=some ie) (hz:ie.zero=some zv) (hzv:Gz zv=some z) (hm':bo m=some m') (hk':bo k=some k') (h:bd C env M (.look fk z ok m' k')=some x) :
  ∃v w',im P o a w v w'/\cG j M w x v w':=by
 simp only [bd] at h
 obtain ⟨e,h1,h⟩:=au h
 obtain ⟨r,h2,h⟩:=au h
 injection h with h; subst h
 obtain ⟨d,hd,hfk⟩:=xj hk
 obtain ⟨b,es,clock,hv,hb,g1,g2,g3,g4⟩:=xu hr h1 (aN he hm')
 have hc:∀q,(Instr.checkKey q 10000 kt (a.eval k)).run P w = .ok () w:=fun q=>wJ hfk hd q _
 rcases zU hfk (aN he hk') (es:=es.toList) 0 h2 (by simpa using g1) (by simpa using g2) (fun i k e hk he=>g3 i k e hk (by simpa using he)) with ⟨rfl,f1⟩|⟨i,u,e',rfl,f2,f3,f1⟩
 ·refine ⟨if ok then .tuple #[zv,.bool false] else zv,w,.inl ?_,.still hr (AF (r:=none) (zl hzv))⟩
  simp [execOp,hop,Instr.lookup,bf ht,hv,MapKept.run_getObj_map hb,hc,Instr.findKey,bf hd,f1,zeroValue,gu hi,hz]
 ·refine ⟨if ok then .tuple #[e'.val,.bool true] else e'.val,w,.inl ?_,.still hr (AF (r:=some u) (g4 i u e' f2 (by simpa using f3)))⟩
  simp [execOp,hop,Instr.lookup,bf ht,hv,MapKept.run_getObj_map hb,hc,Instr.findKey,bf hd,f1]
def OA (hr:Rel j M w) (he:aL j M w env a) {c:Call} {y:Operand} {z:cj} {t k e:TypeId} (hop:o.op = .call c) (hb:c.callee = .builtin .len) (ha:c.args.toList=[y])
  (ht:c.argTypes[0]?=some t) (hs:P.underlying t=some (.map k e)) (hz:bo y=some z) (h:bd C env M (.Fl z)=some x):∃v w',im P o a w v w'/\cG j M w x v w':=by
 simp only [bd] at h
 obtain ⟨e,h1,h⟩:=au h
 injection h with h; subst h
 obtain ⟨b,es,clock,hv,hbl,g1,g2,g3,g4⟩:=xu hr h1 (aN he hz)
 have ha':c.args = #[y]:=by rw [<-ha]
 refine ⟨.int .i64 e.1.length,w,.inl ?_,.still hr (.plain (.int _ _))⟩
 simp [execOp,hop,resolve,hb,invoke,builtin,Builtin.len_,ha',ht,bf hs,hv,MapKept.run_getObj_map hbl,goInt,g1]
def DR (hr:Rel j M w) {bx:aK} {ob:Obj} (hfx:bx.fixed=true) (hh:∀j' M' (w':World),w'.heap[w.heap.size]?=some ob->Holds j' M' w' w.heap.size bx) :
  ∃j':J,Rel j' (M++[bx]) { w with heap:=w.heap.push ob }/\Ext j M w j' (M++[bx]) { w with heap:=w.heap.push ob }/\j' M.length=some w.heap.size:=by
 have q:Quiet w { w with heap:=w.heap.push ob }:=⟨by simp,rfl,rfl,rfl⟩
 have hb:∀b,b<w.heap.size->({ w with heap:=w.heap.push ob }:World).heap[b]?=w.heap[b]?:=fun b hb=>by
  show (w.heap.push _)[b]?=_
  rw [Array.getElem?_push,if_neg (by omega)]
 have hn:({ w with heap:=w.heap.push ob }:World).heap[w.heap.size]?=some ob:=by simp
 refine ⟨bX j M.length (some w.heap.size),hr.push (fun b h=>?_) q hb (fun _=>?_) (fun sz n b h=>by rw [h] at hfx; cases hfx) (fun sz v xs h=>by rw [h] at hfx; cases hfx),Ext.push (fun b h=>?_) q hb,by simp [bX]⟩
 ·injection h with h; subst h; simp
 ·exact ⟨_,rfl,fun j' M' hx=>hh j' M' _ hn⟩
 ·injection h with h; omega
def La (hr:Rel j M w) {t:TypeId} (hop:o.op = .makeMap t none) (h:bd C env M .mkMap=some x):∃v w',im P o a w v w'/\cG j M w x v w':=by
 simp only [bd] at h
 injection h with h; subst h
 obtain ⟨j',h1,h2,h3⟩:=DR (ob := .map #[] 0) (bx := .map [] []) hr rfl fun j' M' w' hw=>⟨#[],0,hw,rfl,rfl,fun i k e h=>by simp at h,fun i k e h=>by simp at h⟩
 exact ⟨.map (some w.heap.size),_,.inl (by simp [execOp,hop,Instr.makeMap]),j',h1,h2,.cz ⟨[],[],by simp⟩ h3⟩
def OH (hr:Rel j M w) (he:aL j M w env a) {t:TypeId} {y:Operand} {z:cj} (hop:o.op = .range t y) (ht:P.underlying t=some .string) (hz:bo y=some z) (h:bd C env M (.FY z)=some x):∃v w',im P o a w v w'/\cG j M w x v w':=by
 simp only [bd] at h
 have h0:=aN he hz
 split at h
 ·rename_i s e
  rw [e] at h0
  injection h with h; subst h
  obtain ⟨j',h1,h2,h3⟩:=DR (ob := .stringIter (bs s) 0) (bx := .fB s 0) hr rfl fun j' M' w' hw=>hw
  exact ⟨.pointer (some ⟨w.heap.size,0,none⟩),_,.inl (by simp [execOp,hop,Instr.range,bf ht,h0.dx]),j',h1,h2,.dp ⟨s,0,by simp⟩ h3⟩
 ·cases h
def yN (hr:Rel j M w) {id b:Nat} {bx bx':aK} {ob:Obj} (hM:M[id]?=some bx) (hfx:bx.fixed=true) (htag:bx'.tag=bx.tag) (hj:j id=some b) (hnc:∀vs t fr,w.heap[b]?≠some (.cells vs t fr))
  (hh:∀j' M' (w':World),Ext j M w j' M' w'->w'.heap[b]?=some ob->Holds j' M' w' b bx') :
  Rel j (M.set id bx') { w with heap:=w.heap.setIfInBounds b ob }/\Ext j M w j (M.set id bx') { w with heap:=w.heap.setIfInBounds b ob }:=by
 have q:Quiet w { w with heap:=w.heap.setIfInBounds b ob }:=⟨by simp,rfl,rfl,rfl⟩
 have hb:∀b',b'≠b->b'<w.heap.size->({ w with heap:=w.heap.setIfInBounds b ob }:World).heap[b']?=w.heap[b']?:=fun b' hne _=>by
  show (w.heap.setIfInBounds b ob)[b']?=_
  rw [Array.getElem?_setIfInBounds_ne (Ne.symm hne)]
 have hlt:b<w.heap.size:=hr.lt id b (aj hM) hj
 have hn:({ w with heap:=w.heap.setIfInBounds b ob }:World).heap[b]?=some ob:=by
  show (w.heap.setIfInBounds b ob)[b]?=_
  simp [hlt]
 exact ⟨Rel.store hM hfx htag hj hr q hb (fun vs t fr h=>absurd h (hnc vs t fr)) fun j' M' hx=>hh j' M' _ hx hn,Ext.store hM hfx htag hj hr q hb (fun vs t fr h=>absurd h (hnc vs t fr))⟩
def Lc (hr:Rel j M w) (he:aL j M w env a) {y:Operand} {z:cj} (hop:o.op = .next y true) (hz:bo y=some z) (h:bd C env M (.xz z)=some x):∃v w',im P o a w v w'/\cG j M w x v w':=by
 simp only [bd] at h
 have h0:=aN he hz
 split at h
 ·rename_i id e
  rw [e] at h0
  obtain ⟨b,_,hj,hv⟩:=h0.vm
  split at h
  ·rename_i s pos hM
   rw [bE] at hM
   obtain ⟨b',hj',hw⟩:=hr.fix _ _ hM rfl
   rw [hj] at hj'; injection hj' with hj'; subst hj'
   have hw:w.heap[b]?=some (.stringIter (bs s) pos):=hw
   have hsz:(bs s).size=s.length:=by simp [bs,ByteArray.size]
   have hget:(getObj b).run P w = .ok (.stringIter (bs s) pos) w:=by simp [getObj,Sem.run,hw]
   rcases dw h with ⟨hlt,h⟩|⟨hlt,h⟩<;>(injection h with h; subst h)
   ·have hlt':pos<s.length:=by simpa using hlt
    have hset:∀ob,(setObj b ob).run P w = .ok () { w with heap:=w.heap.setIfInBounds b ob }:=fun ob=>by simp [setObj,Sem.run,hw]
    obtain ⟨r1,r2⟩:=yN (ob := .stringIter (bs s) (pos+(Utf8.decode (bs s) pos).2)) (bx' := .fB s (pos+(Utf8.decode ⟨s.toArray⟩ pos).2)) hr hM rfl rfl hj (fun vs t fr h=>by rw [hw] at h; cases h) fun j' M' w' _ hw=>hw
    refine ⟨.tuple #[.bool true,goInt pos,.int .i32 (Utf8.decode (bs s) pos).1],{ w with heap:=w.heap.setIfInBounds b (.stringIter (bs s) (pos+(Utf8.decode (bs s) pos).2)) },.inl ?_,j,?_,?_,?_⟩
    ·simp [execOp,hop,Instr.next,hv,hget,hsz,hlt',hset]
    ·rw [cd]; exact r1
    ·rw [cd]; exact r2
    ·refine .tuple rfl fun i c u hc hu=>?_
     match i with
     |0=>simp at hc hu; subst hc; subst hu; exact .plain (.bool _)
     |1=>simp at hc hu; subst hc; subst hu; exact .plain (.int _ _)
     |2=>simp at hc hu; subst hc; subst hu; exact .plain (.int _ _)
     |n+3=>simp at hc
   ·have hlt':¬pos<s.length:=by simpa using hlt
    refine ⟨.tuple #[.bool false],w,.inl ?_,.still hr (.tuple rfl fun i c u hc hu=>?_)⟩
    ·simp [execOp,hop,Instr.next,hv,hget,hsz,hlt']
    ·match i with
     |0=>simp at hc hu; subst hc; subst hu; exact .plain (.bool _)
     |n+1=>simp at hc
  ·cases h
 ·cases h
def Lf (hr:Rel j M w) (he:aL j M w env a) {t kt et:TypeId} {m k y:Operand} {m' k' y':cj} {fk:FK} (hop:o.op = .mapUpdate t m k y\/o.op = .insert t m k y) (ht:P.underlying t=some (.map kt et))
  (hk:vq P kt=some fk) (hm':bo m=some m') (hk':bo k=some k') (hyr:bQ j M w (y'.ev env) (a.eval y)) (h:bd C env M (.bX fk m' k' y')=some x):∃v w',im P o a w v w'/\cG j M w x v w':=by
 simp only [bd] at h
 have h0:=aN he hm'
 split at h
 ·rename_i id e
  rw [e] at h0
  split at h
  ·rename_i ks vs hM
   obtain ⟨r,hr',h⟩:=au h
   injection h with h; subst h
   rw [bE] at hM
   obtain ⟨b,_,hj,hv⟩:=h0.mB
   obtain ⟨b',hj',es,clock,hb,g2,g3,g4,g5⟩:=hr.fix _ _ hM rfl
   rw [hj] at hj'; injection hj' with hj'; subst hj'
   obtain ⟨d,hd,hfk⟩:=xj hk
   have hc:∀q,(Instr.checkKey q 10000 kt (a.eval k)).run P w = .ok () w:=fun q=>wJ hfk hd q _
   obtain ⟨kp,hf⟩:=zV hfk (aN he hk') (es:=es.toList) 0 hr' (by simpa using g2) (by simpa using g3) (fun i k e hk he=>g4 i k e hk (by simpa using he))
   have hset:∀ob,(setObj b ob).run P w = .ok () { w with heap:=w.heap.setIfInBounds b ob }:=fun ob=>MapKept.run_setObj_map ob hb
   rcases hf with ⟨rfl,f1⟩|⟨i,e',rfl,f3,f4,f1⟩
   ·obtain ⟨r1,r2⟩:=yN (ob := .map (es.push { key:=a.eval k,val:=a.eval y,born:=clock }) (clock+1)) (bx' := .map (ks++[k'.ev env]) (vs++[y'.ev env])) hr hM rfl rfl hj (fun vs t fr h=>by rw [hb] at h; cases h) fun j' M' w' hx hw=>by
     refine ⟨_,_,hw,by simp [g2],by simp [g3],fun i k e hk he=>?_,fun i k e hk he=>?_⟩
     ·rw [Array.getElem?_push] at he
      rw [List.getElem?_append] at hk
      by_cases hi:i=es.size
      ·subst hi
       simp [g2] at hk he
       subst hk; subst he
       exact kp.mono hx.cu
      ·rw [if_neg hi] at he
       have hi':i<es.size:=(Array.getElem?_eq_some_iff.1 he).1
       rw [if_pos (by omega)] at hk
       exact (g4 i k e hk he).mono hx.cu
     ·rw [Array.getElem?_push] at he
      rw [List.getElem?_append] at hk
      by_cases hi:i=es.size
      ·subst hi
       simp [g3] at hk he
       subst hk; subst he
       exact hyr.mono hx
      ·rw [if_neg hi] at he
       have hi':i<es.size:=(Array.getElem?_eq_some_iff.1 he).1
       rw [if_pos (by omega)] at hk
       exact (g5 i k e hk he).mono hx
    refine ⟨undef,{ w with heap:=w.heap.setIfInBounds b (.map (es.push { key:=a.eval k,val:=a.eval y,born:=clock }) (clock+1)) },.inr ⟨?_,rfl⟩,j,?_,?_,.any _⟩
    ·rcases hop with hop|hop<;>simp [execOp,hop,Instr.mapUpdate,bf ht,hv,MapKept.run_getObj_map hb,hc,Instr.findKey,bf hd,f1,hset]
    ·rw [cd]; exact r1
    ·rw [cd]; exact r2
   ·have hi:i<es.size:=by simpa using (List.getElem?_eq_some_iff.1 f3).1
    have he':es[i]?=some e':=by simpa using f3
    obtain ⟨r1,r2⟩:=yN (ob := .map (es.modify i fun e=>{ e with key:=a.eval k,val:=a.eval y }) clock) (bx' := .map (ks.set i (k'.ev env)) (vs.set i (y'.ev env))) hr hM rfl rfl hj (fun vs t fr h=>by rw [hb] at h; cases h) fun j' M' w' hx hw=>by
     refine ⟨_,_,hw,by simp [g2],by simp [g3],fun q k e hk he=>?_,fun q k e hk he=>?_⟩
     ·rw [Array.getElem?_modify] at he
      by_cases hq:i=q
      ·subst hq
       simp [he'] at he
       rw [List.getElem?_set_self (by omega)] at hk
       injection hk with hk; subst hk; subst he
       exact kp.mono hx.cu
      ·rw [if_neg hq] at he
       rw [List.getElem?_set_ne hq] at hk
       exact (g4 q k e hk he).mono hx.cu
     ·rw [Array.getElem?_modify] at he
      by_cases hq:i=q
      ·subst hq
       simp [he'] at he
       rw [List.getElem?_set_self (by omega)] at hk
       injection hk with hk; subst hk; subst he
       exact hyr.mono hx
      ·rw [if_neg hq] at he
       rw [List.getElem?_set_ne hq] at hk
       exact (g5 q k e hk he).mono hx
    refine ⟨undef,{ w with heap:=w.heap.setIfInBounds b (.map (es.modify i fun e=>{ e with key:=a.eval k,val:=a.eval y }) clock) },.inr ⟨?_,rfl⟩,j,?_,?_,.any _⟩
    ·rcases hop with hop|hop<;>simp [execOp,hop,Instr.mapUpdate,bf ht,hv,MapKept.run_getObj_map hb,hc,Instr.findKey,bf hd,f1,hset,he',Instr.keyThatStays,f4]
    ·rw [cd]; exact r1
    ·rw [cd]; exact r2
  ·cases h
 ·cases h
end
def dD (xs:List ae):List ae:=xs.flatMap ae.cells
def gi (x:ae) (xs:List ae):dD (x::xs)=x.cells++dD xs:=rfl
def gh (xs ys:List ae):dD (xs++ys)=dD xs++dD ys:=by simp [dD]
def cK {sz:Nat}:∀ {xs:List ae},wid xs sz->(dD xs).length=xs.length*sz
 | [],_=>by simp [dD]
 |x::xs,h=>by
  rw [gi,List.length_append,h x (List.mem_cons_self ..),cK fun y hy=>h y (List.mem_cons_of_mem _ hy),List.length_cons,Nat.add_mul]
  omega
def fH {sz:Nat} {xs ys:List ae} (h1:wid xs sz) (h2:wid ys sz):wid (xs++ys) sz:=fun x hx=>(List.mem_append.1 hx).elim (h1 x) (h2 x)
def mN {sz n:Nat} {xs:List ae} (h:wid xs sz):wid (xs.take n) sz:=fun x hx=>h x (List.mem_of_mem_take hx)
def mM {sz n:Nat} {xs:List ae} (h:wid xs sz):wid (xs.drop n) sz:=fun x hx=>h x (List.mem_of_mem_drop hx)
def jx {sz:Nat}:∀(n:Nat) {xs:List ae},wid xs sz->dD (xs.take n)=(dD xs).take (n*sz)
 |0,_,_=>by simp [dD]
 |n+1,[],_=>by simp [dD]
 |n+1,x::xs,h=>by
  have hx:=h x (List.mem_cons_self ..)
  have e:(n+1)*sz=sz+n*sz:=by rw [Nat.add_mul]; omega
  rw [List.take_succ_cons,gi,gi,jx n fun y hy=>h y (List.mem_cons_of_mem _ hy),List.take_append,hx,e,Nat.add_sub_cancel_left,List.take_of_length_le (l:=x.cells) (by omega)]
def kM {sz:Nat}:∀(n:Nat) {xs:List ae},wid xs sz->dD (xs.drop n)=(dD xs).drop (n*sz)
 |0,_,_=>by simp
 |n+1,[],_=>by simp [dD]
 |n+1,x::xs,h=>by
  have hx:=h x (List.mem_cons_self ..)
  have e:(n+1)*sz=sz+n*sz:=by rw [Nat.add_mul]; omega
  rw [List.drop_succ_cons,gi,kM n fun y hy=>h y (List.mem_cons_of_mem _ hy),List.drop_append,hx,e,Nat.add_sub_cancel_left,List.drop_of_length_le (l:=x.cells) (by omega),List.nil_append]
def sg {sz:Nat}:∀ {xs:List ae},wid xs sz->∀ {q:Nat} {x:ae} {k:Nat} {c:ae},xs[q]?=some x->x.cells[k]?=some c->(dD xs)[q*sz+k]?=some c
 | [],_,q,x,k,c,hx,_=>by simp at hx
 |y::xs,h,0,x,k,c,hx,hk=>by
  simp at hx; subst hx
  rw [gi,Nat.zero_mul,Nat.zero_add,List.getElem?_append_left (List.getElem?_eq_some_iff.1 hk).1]
  exact hk
 |y::xs,h,q+1,x,k,c,hx,hk=>by
  have hy:=h y (List.mem_cons_self ..)
  rw [gi,List.getElem?_append_right (by rw [hy,Nat.add_mul]; omega),hy]
  rw [show (q+1)*sz+k-sz=q*sz+k by rw [Nat.add_mul]; omega]
  exact sg (fun z hz=>h z (List.mem_cons_of_mem _ hz)) (by simpa using hx) hk
def va {sz:Nat} {xs:List ae} (h:wid xs sz) {p:Nat} {c:ae} (hp:(dD xs)[p]?=some c):∃q x k,xs[q]?=some x/\x.cells[k]?=some c/\p=q*sz+k:=by
 have hlt:p<xs.length*sz:=by rw [<-cK h]; exact (List.getElem?_eq_some_iff.1 hp).1
 have hsz:0<sz:=by
  rcases Nat.eq_zero_or_pos sz with h0|h0
  ·subst h0; simp at hlt
  ·exact h0
 have hq:p / sz<xs.length:=by rw [Nat.div_lt_iff_lt_mul hsz]; exact hlt
 have hx:=List.getElem?_eq_getElem hq
 have hk:p % sz<(xs[p / sz]).cells.length:=by rw [h _ (List.getElem_mem hq)]; exact Nat.mod_lt _ hsz
 have hc:=List.getElem?_eq_getElem hk
 have hpe:p / sz*sz+p % sz=p:=by rw [Nat.mul_comm]; exact Nat.div_add_mod p sz
 have:=sg h hx hc
 rw [hpe,hp] at this
 refine ⟨_,_,_,hx,?_,hpe.symm⟩
 rw [hc]; exact this.symm
def RL (w:World) (cu:Nat->Nat->Prop) (cs:List ae) (vs:List Value):Prop:=cs.length=vs.length/\∀(p:Nat) (c:ae) (v:Value),cs[p]?=some c->vs[p]?=some v->bF w cu c v
section
variable {w w':World} {cu saf':Nat->Nat->Prop} {cs ds:List ae} {us vs:List Value}
def RL.append (h:RL w cu cs us) (k:RL w cu ds vs):RL w cu (cs++ds) (us++vs):=by
 refine ⟨by simp [h.1,k.1],fun p c v hc hv=>?_⟩
 rcases Nat.lt_or_ge p cs.length with hp|hp
 ·rw [List.getElem?_append_left hp] at hc
  rw [List.getElem?_append_left (by rw [<-h.1]; exact hp)] at hv
  exact h.2 p c v hc hv
 ·rw [List.getElem?_append_right hp] at hc
  rw [List.getElem?_append_right (by rw [<-h.1]; exact hp),<-h.1] at hv
  exact k.2 _ c v hc hv
def RL.take (n:Nat) (h:RL w cu cs us):RL w cu (cs.take n) (us.take n):=by
 refine ⟨by simp [h.1],fun p c v hc hv=>?_⟩
 rw [List.getElem?_take] at hc hv
 split at hc
 ·rename_i hp
  rw [if_pos hp] at hv
  exact h.2 p c v hc hv
 ·cases hc
def RL.drop (n:Nat) (h:RL w cu cs us):RL w cu (cs.drop n) (us.drop n):=by
 refine ⟨by simp [h.1],fun p c v hc hv=>?_⟩
 rw [List.getElem?_drop] at hc hv
 exact h.2 _ c v hc hv
def RL.mono (hm:∀b off,cu b off->saf' b off/\w'.cell? ⟨b,off,none⟩=w.cell? ⟨b,off,none⟩) (h:RL w cu cs us):RL w' saf' cs us:=⟨h.1,fun p c v hc hv=>(h.2 p c v hc hv).mono hm⟩
end
section
variable {j:J} {M:ag} {w:World}
def oS {b sz:Nat} {xs:List ae} {vs:Array Value} (hl:xs.length*sz<=vs.size) (hwd:wid xs sz)
  (hc:∀(q:Nat) (x:ae) (k:Nat) (c:ae),xs[q]?=some x->x.cells[k]?=some c->∃v,vs[q*sz+k]?=some v/\bF w (fJ j M w) c v):RL w (fJ j M w) (dD xs) (vs.toList.take (xs.length*sz)):=by
 refine ⟨by rw [cK hwd]; simp; omega,fun p c v hp hv=>?_⟩
 obtain ⟨q,x,k,h1,h2,rfl⟩:=va hwd hp
 obtain ⟨u,h3,h4⟩:=hc q x k c h1 h2
 rw [List.getElem?_take] at hv
 split at hv
 ·rw [Array.getElem?_toList,h3] at hv
  injection hv with hv; subst hv
  exact h4
 ·cases hv
def fE {j':J} {M':ag} {w':World} {b sz:Nat} {t:TypeId} {xs:List ae} {us:List Value} {vs:Array Value} (hw:w'.heap[b]?=some (.cells vs t (0,0))) (hwd:wid xs sz) (hr:RL w' (fJ j' M' w') (dD xs) us)
  (hv:∀p,p<us.length->vs[p]?=us[p]?):yY j' M' w' b sz xs:=by
 have hlen:us.length=xs.length*sz:=by rw [<-hr.1,cK hwd]
 refine ⟨vs,t,hw,?_,hwd,fun q x k c hx hk=>?_⟩
 ·rcases Nat.eq_zero_or_pos us.length with h0|h0
  ·omega
  ·have h1:=hv (us.length-1) (by omega)
   rw [List.getElem?_eq_getElem (by omega)] at h1
   have:=(Array.getElem?_eq_some_iff.1 h1).1
   omega
 ·have h1:=sg hwd hx hk
  have hp:q*sz+k<us.length:=by rw [<-hr.1]; exact (List.getElem?_eq_some_iff.1 h1).1
  exact ⟨us[q*sz+k],by rw [hv _ hp,List.getElem?_eq_getElem hp],hr.2 _ _ _ h1 (List.getElem?_eq_getElem hp)⟩
def sj:∀(ids:List Nat) {M:ag} {i:Nat} {bx:aK},M[i]?=some bx->(∀sz v xs,bx ≠ .arr sz v xs)->(kh M ids)[i]?=some bx
 | [],_,_,_,h,_=>h
 |a::r,M,i,bx,h,hn=>by
  simp only [kh,bE]
  split
  ·rename_i sz v xs hM
   refine sj r ?_ hn
   have e:a≠i:=by rintro rfl; rw [hM] at h; injection h with h; exact hn _ _ _ h.symm
   rw [cd,aH e]; exact h
  ·exact sj r h hn
def uk:∀(ids:List Nat) {M:ag},Rel j M w->Ext j M w j (kh M ids) w/\Rel j (kh M ids) w/\(kh M ids).length=M.length/\∀id,id∈ids->∀sz v xs,M[id]?=some (.arr sz v xs)->(kh M ids)[id]?=some (.tick sz xs.length)
 | [],M,hr=>⟨.refl _ _ _,hr,rfl,fun id h=>by cases h⟩
 |a::r,M,hr=>by
  simp only [kh,bE]
  split
  ·rename_i sz v xs hM
   rw [cd]
   obtain ⟨h1,h2,h3,h4⟩:=uk r (Rel.freeze hM hr)
   refine ⟨(Ext.freeze hM).trans h1,h2,by rw [h3]; simp,fun id hid sz' v' xs' hid'=>?_⟩
   by_cases e:a=id
   ·subst e
    rw [hM] at hid'; injection hid' with hid'; injection hid' with e1 e2 e3
    subst e1; subst e3
    exact sj r (aU (aj hM)) (by intro _ _ _ h; cases h)
   ·rcases List.mem_cons.1 hid with rfl|hid
    ·exact absurd rfl e
    ·exact h4 id hid sz' v' xs' (by rw [aH e]; exact hid')
  ·rename_i hno
   obtain ⟨h1,h2,h3,h4⟩:=uk r hr
   refine ⟨h1,h2,h3,fun id hid sz' v' xs' hid'=>?_⟩
   rcases List.mem_cons.1 hid with rfl|hid
   ·exact absurd hid' (hno _ _ _)
   ·exact h4 id hid sz' v' xs' hid'
def bQ.gr {M':ag} (hr:Rel j M w) (hx:Ext j M w j M' w) (hr':Rel j M' w) (hl:M'.length=M.length) {x:ae} {v:Value} (h:bQ j M w x v) (hf:∀id,id∈x.cm->∀sz v xs,M[id]?=some (.arr sz v xs)->M'[id]?=some (.tick sz xs.length)):bQ j M' w (x.gr M) v:=by
 cases x<;>try exact h.mono hx
 rename_i id ver sz lo hi
 simp only [ae.gr,bE]
 split
 ·rename_i sz' v' xs hM
  split
  ·rename_i hv
   subst hv
   obtain ⟨_,hid,_,g⟩:=h.gm
   obtain ⟨e1,l1,l2,⟨rfl,_,A,rfl⟩|⟨b,cap,vs,t,l3,l4,l5,l6,l7⟩⟩:=(g sz' v' xs hM).2 rfl
   ·simp only [List.take_nil,List.drop_nil]
    exact .plain (bF.nil _ _ _)
   subst e1
   obtain ⟨b',vs',t',k1,k2,k3,k4,k5⟩:=hr.qw hM l3
   rw [l3] at k1; injection k1 with k1; subst k1
   rw [l4]
   refine .plain (oT k2 k4 k5 (fun b off hs=>(hx.cu b off hs).1) (fun off ho=>⟨hr'.lt id b (by rw [hl]; exact aj hM) l3,fun i hi hji=>?_,hr'.lY id b (by rw [hl]; exact aj hM) l3 off⟩) l1 l2 l5)
   have:i=id:=hr'.inj i id b hi (by rw [hl]; exact aj hM) hji l3
   subst this
   exact ⟨sz',xs.length,hf i (by simp [ae.cm]) _ _ _ hM,ho⟩
  ·exact .any _
 ·exact .any _
def bQ.mY {M':ag} (hr:Rel j M w) (hx:Ext j M w j M' w) (hr':Rel j M' w) (hl:M'.length=M.length) {x:ae} {v:Value} (h:bQ j M w x v) (hf:∀id,id∈x.ids->∀sz v xs,M[id]?=some (.arr sz v xs)->M'[id]?=some (.tick sz xs.length)):bQ j M' w (x.mY M) v:=by
 by_cases hag:∃cs,x = .agg cs
 ·obtain ⟨cs,rfl⟩:=hag
  obtain ⟨vs,rfl,hl',hc⟩:=h.eK
  refine .agg (by simpa using hl') fun i c u hi hu=>?_
  rw [List.getElem?_map,Option.map_eq_some_iff] at hi
  obtain ⟨c0,hc0,rfl⟩:=hi
  refine (hc i c0 u hc0 hu).gr hr hx hr' hl fun id hid=>hf id ?_
  refine List.mem_flatMap.2 ⟨c0,List.mem_of_getElem? hc0,?_⟩
  cases c0<;>first|exact hid|(simp [ae.cm] at hid)
 ·have:x.mY M=x.gr M:=by cases x<;>first|rfl|exact absurd ⟨_,rfl⟩ hag
  rw [this]
  refine h.gr hr hx hr' hl fun id hid=>hf id ?_
  cases x<;>first|exact hid|exact absurd ⟨_,rfl⟩ hag|(simp [ae.cm] at hid)
end
section
variable {P:Program} {C:bt} {o:Oper} {env:Env} {M:ag} {j:J} {w:World} {a:Act} {x:ae×ag}
def gR (z:Array Value) (n:Nat):(Builtin.zeroCells z n).toList=(List.replicate n z.toList).flatten:=by
 induction n with
 |zero=>simp [Builtin.zeroCells]
 |succ n ih =>
  rw [List.replicate_succ',List.flatten_append,<-ih]
  apply List.ext_getElem?
  intro i
  simp only [Builtin.zeroCells,Array.toList_map,Array.toList_range,List.flatten_cons,List.flatten_nil,List.append_nil]
  rcases Nat.lt_or_ge i (n*z.size) with h|h
  ·rw [List.getElem?_append_left (by simpa using h)]
   have h':i<(n+1)*z.size:=by rw [Nat.add_mul]; omega
   simp [List.getElem?_range,h,h']
  ·rw [List.getElem?_append_right (by simpa using h)]
   simp only [List.length_map,List.length_range]
   rcases Nat.lt_or_ge i ((n+1)*z.size) with h2|h2
   ·have h3:i-n*z.size<z.size:=by rw [Nat.add_mul] at h2; omega
    have h4:i % z.size=i-n*z.size:=by
     have:i=(i-n*z.size)+n*z.size:=by omega
     rw [this,Nat.add_mul_mod_self_right,Nat.mod_eq_of_lt h3]; omega
    rw [List.getElem?_map,List.getElem?_range h2]
    simp [h4,h3]
   ·rw [List.getElem?_eq_none (by simpa using h2),List.getElem?_eq_none]
    rw [Nat.add_mul] at h2; simp; omega
def E2 (n:Nat) (zero:List ae):dD (List.replicate n (.agg zero))=(List.replicate n zero).flatten:=by
 induction n with
 |zero=>rfl
 |succ n ih=>rw [List.replicate_succ,gi,ih,List.replicate_succ,List.flatten_cons]; rfl
def Gx {cu:Nat->Nat->Prop} (n:Nat) {cs:List ae} {us:List Value} (h:RL w cu cs us):RL w cu (List.replicate n cs).flatten (List.replicate n us).flatten:=by
 induction n with
 |zero=>exact ⟨rfl,fun p c v hc=>by simp at hc⟩
 |succ n ih=>rw [List.replicate_succ,List.replicate_succ,List.flatten_cons,List.flatten_cons]; exact h.append ih
def oQ {id b sz ver ver':Nat} {xs xs':List ae} {vs vs':Array Value} {t:TypeId} {us:List Value} {w':World} (hr:Rel j M w) (hM:M[id]?=some (.arr sz ver xs)) (hj:j id=some b) (q:Quiet w w')
  (hb:∀b',b'≠b->b'<w.heap.size->w'.heap[b']?=w.heap[b']?) (hw:w.heap[b]?=some (.cells vs t (0,0))) (hw':w'.heap[b]?=some (.cells vs' t (0,0))) (hs:vs'.size=vs.size)
  (hv:ver<=ver') (hl:ver'=ver->xs'.length=xs.length) (hwd:wid xs' sz) (hrl:RL w (fJ j M w) (dD xs') us) (hus:∀p,p<us.length->vs'[p]?=us[p]?) :
  Rel j (M.set id (.arr sz ver' xs')) w'/\Ext j M w j (M.set id (.arr sz ver' xs')) w':=by
 have hwr:∀vs0 t1,w.heap[b]?=some (.cells vs0 t1 (0,0))->∃vs1,w'.heap[b]?=some (.cells vs1 t1 (0,0))/\vs1.size=vs0.size:=fun vs0 t1 h=>by
  rw [hw] at h; injection h with h; injection h with e1 e2
  subst e1; subst e2
  exact ⟨vs',hw',hs⟩
 exact ⟨Rel.wE hM hj hr q hb hwr hv hl fun j' M' hx=>fE hw' hwd (hrl.mono hx.cu) hus,Ext.wE hM hj hr q hb hwr hv hl⟩
def uD {l:List ae} {vs:List Value} (hl:jL vs=some l) (hp:(l.map ae.shut).all ae.plainCell=true):RL w (fJ j M w) (l.map ae.shut) vs/\∀v,v∈vs->v.oneCell'=true:=by
 obtain ⟨h1,h2⟩:=gJ (j:=j) (M:=M) (w:=w) hl
 rw [List.all_map,List.all_eq_true] at hp
 refine ⟨⟨by simpa using h1,fun p c v hc hv=>?_⟩,fun v hv=>?_⟩
 ·rw [List.getElem?_map,Option.map_eq_some_iff] at hc
  obtain ⟨c0,hc0,rfl⟩:=hc
  exact rI (h2 p c0 v hc0 hv) (hp c0 (List.mem_of_getElem? hc0))
 ·obtain ⟨p,hp',rfl⟩:=List.getElem_of_mem hv
  have hpl:p<l.length:=by omega
  exact uR (h2 p _ _ (List.getElem?_eq_getElem hpl) (List.getElem?_eq_getElem hp')) (tU (hp _ (List.getElem_mem hpl)))
def FD (hr:Rel j M w) (he:aL j M w env a) {c:Call} {y:Operand} {z:cj} {t e:TypeId} {i:TypeInfo} {zv:Value} {l:List ae} (hop:o.op = .call c) (hb:c.callee = .builtin .clear) (ha:c.args.toList=[y])
  (ht:c.argTypes.toList=[t]) (hs:P.underlying t=some (.slice e)) (hi:P.info? e=some i) (hzv:i.zero=some zv) (hl:jL zv.cells.toList=some l) (hsz:l.length=i.size) (hz:bo y=some z)
  (h:bd C env M (.rZ i.size (l.map ae.shut) z)=some x):∃v w',im P o a w v w'/\cG j M w x v w':=by
 simp only [bd] at h
 have h1:=aN he hz
 have ha':c.args = #[y]:=by rw [<-ha]
 have ht':c.argTypes = #[t]:=by rw [<-ht]
 split at h
 ·rename_i tk xs ez
  rw [ez] at h1
  split at h
  ·injection h with h; subst h
   obtain ⟨A,cap,b,off,sz,vs,hv,_⟩:=h1.bg.bg
   refine ⟨.tuple #[],w,.inl ?_,.still hr (.any _)⟩
   cases A<;>simp [execOp,hop,resolve,hb,invoke,builtin,Builtin.clear_,ha',ht',bf hs,hv]
  ·cases h
 ·rename_i id ver sz' lo hi' ez
  rw [ez] at h1
  rw [bE] at h
  split at h
  ·rename_i sz0 v0 xs hM
   split at h
   ·rename_i hc
    obtain ⟨c1,c2,c3,c4⟩:=hc
    injection h with h; subst h
    subst c1; subst c2
    obtain ⟨_,hid,_,g⟩:=h1.gm
    obtain ⟨e1,l1,l2,⟨rfl,_,A,hA⟩|⟨b,cap,vs,t0,l3,l4,l5,l6,l7⟩⟩:=(g sz0 v0 xs hM).2 rfl
    ·have hlo:lo=0:=Nat.le_zero.1 (Nat.le_trans l1 l2)
     have hhi:hi'=0:=Nat.le_zero.1 l2
     subst hlo; subst hhi
     refine ⟨.tuple #[],w,.inl ?_,?_⟩
     ·cases A<;>simp [execOp,hop,resolve,hb,invoke,builtin,Builtin.clear_,ha',ht',bf hs,hA]
     ·rw [cd]
      have he:M.set id (.arr sz0 v0 (List.take 0 ([]:List ae)++(List.replicate (0-0) (ae.agg (l.map ae.shut))++List.drop 0 [])))=M:=by
       apply List.ext_getElem?
       intro p
       by_cases e:id=p
       ·subst e; rw [aU (aj hM),hM]; rfl
       ·rw [aH e]
      rw [he]
      exact .still hr (.any _)
    subst e1
    obtain ⟨b',vs',t',k1,k2,k3,k4,k5⟩:=hr.qw hM l3
    rw [l3] at k1; injection k1 with k1; subst k1
    rw [l6] at k2; injection k2 with k2; injection k2 with k2 k2'
    subst k2; subst k2'
    obtain ⟨p1,p2⟩:=uD (j:=j) (M:=M) (w:=w) hl c4
    have hzl:zv.cells.toList.length=i.size:=by rw [<-p1.1]; simpa using hsz
    have hlen:(List.replicate (hi'-lo) zv.cells.toList).flatten.length=(hi'-lo)*i.size:=by simp [List.length_flatten,List.map_replicate,List.sum_replicate_nat,hzl]
    have hbd:lo*i.size+(hi'-lo)*i.size<=xs.length*i.size:=by rw [<-Nat.add_mul]; exact Nat.mul_le_mul_right _ (by omega)
    have hfit:lo*i.size+(List.replicate (hi'-lo) zv.cells.toList).flatten.length<=vs.size:=by rw [hlen]; omega
    have hone:∀v,v∈(List.replicate (hi'-lo) zv.cells.toList).flatten->v.oneCell'=true:=fun v hv=>by
     obtain ⟨r,hr1,hr2⟩:=List.mem_flatten.1 hv
     rw [List.eq_of_mem_replicate hr1] at hr2
     exact p2 v hr2
    have hrun:=fG (P:=P) (List.replicate (hi'-lo) zv.cells.toList).flatten w (lo*i.size) 0 vs l6 (by omega) hone
    obtain ⟨s1,s2,s3,s4,s5,vs',s6,s7,s8,s9⟩:=eT (List.replicate (hi'-lo) zv.cells.toList).flatten w (lo*i.size) vs l6 hfit
    have hrow:=oS (b:=b) k3 k4 k5
    have hwz:wid (List.replicate (hi'-lo) (ae.agg (l.map ae.shut))) i.size:=fun x hx=>by rw [List.eq_of_mem_replicate hx]; simpa [ae.cells] using hsz
    have dH:RL w (fJ j M w) (dD (xs.take lo++(List.replicate (hi'-lo) (ae.agg (l.map ae.shut))++xs.drop hi'))) ((vs.toList.take (xs.length*i.size)).take (lo*i.size)++((List.replicate (hi'-lo) zv.cells.toList).flatten++(vs.toList.take (xs.length*i.size)).drop (hi'*i.size))):=by
     rw [gh,gh,jx lo k4,kM hi' k4,E2]
     exact (hrow.take _).append ((Gx _ p1).append (hrow.drop _))
    have hhi:lo*i.size+(hi'-lo)*i.size=hi'*i.size:=by rw [<-Nat.add_mul,Nat.add_sub_cancel' l1]
    have hput:=oQ (ver':=v0) (xs':=xs.take lo++(List.replicate (hi'-lo) (ae.agg (l.map ae.shut))++xs.drop hi')) hr hM l3 (w':=gF w b (lo*i.size) (List.replicate (hi'-lo) zv.cells.toList).flatten) ⟨by omega,s2,s3,s4⟩ (fun b' hb' _=>s5 b' hb') l6 s6 s7 (Nat.le_refl _)
     (fun _=>by simp; omega) (fH (mN k4) (fH hwz (mM k4))) dH (fun p hp=>by
      have hp':p<xs.length*i.size:=by
       rw [<-dH.1,cK (fH (mN k4) (fH hwz (mM k4)))] at hp
       have:(xs.take lo++(List.replicate (hi'-lo) (ae.agg (l.map ae.shut))++xs.drop hi')).length=xs.length:=by simp; omega
       rwa [this] at hp
      have htk:(List.take (lo*i.size) (vs.toList.take (xs.length*i.size))).length=lo*i.size:=by simp; omega
      rcases Nat.lt_or_ge p (lo*i.size) with q1|q1
      ·rw [s8 p (.inl q1),List.getElem?_append_left (by rw [htk]; exact q1),List.getElem?_take_of_lt q1,List.getElem?_take_of_lt hp']; simp
      ·rw [List.getElem?_append_right (by rw [htk]; exact q1),htk]
       rcases Nat.lt_or_ge p (hi'*i.size) with q2|q2
       ·rw [List.getElem?_append_left (by rw [hlen]; omega)]
        have:=s9 (p-lo*i.size) (by rw [hlen]; omega)
        rw [Nat.add_sub_cancel' q1] at this
        exact this
       ·rw [List.getElem?_append_right (by rw [hlen]; omega),s8 p (.inr (by rw [hlen]; omega)),List.getElem?_drop,hlen,show hi'*i.size+(p-lo*i.size-(hi'-lo)*i.size)=p by omega,List.getElem?_take_of_lt hp']; simp)
    rw [cd]
    rcases Nat.eq_zero_or_pos (hi'-lo) with h0|h0
    ·refine ⟨.tuple #[],gF w b (lo*i.size) (List.replicate (hi'-lo) zv.cells.toList).flatten,.inl ?_,j,hput.1,hput.2,.any _⟩
     rw [h0] at l4
     simp [execOp,hop,resolve,hb,invoke,builtin,Builtin.clear_,ha',ht',bf hs,l4,h0,gF]
    ·refine ⟨.tuple #[],gF w b (lo*i.size) (List.replicate (hi'-lo) zv.cells.toList).flatten,.inl ?_,j,hput.1,hput.2,.any _⟩
     obtain ⟨m,hm⟩:∃m,hi'-lo=m+1:=⟨hi'-lo-1,by omega⟩
     simp only [Nat.add_zero] at hrun
     rw [<-gR,hm] at hrun
     rw [hm] at l4
     rw [<-gR,hm]
     simp [execOp,hop,resolve,hb,invoke,builtin,Builtin.clear_,ha',ht',bf hs,l4,zeroValue,gu hi,hzv,hrun]
   ·cases h
  ·cases h
 ·cases h
end
def bF.oq {j:J} {M:ag} {w:World} {x:ae} {v:Value} (h:bQ j M w x v) (hp:x.plainCell=true):bF w (fJ j M w) x v:=by
 cases x with
 |slice tk xs=>cases tk with
  |sh=>exact h.bg
  |c0=>cases hp
  |own k=>cases hp
 |bool b=>cases h with|plain h=>exact h
 |int k n=>cases h with|plain h=>exact h
 |str s=>cases h with|plain h=>exact h
 |raw v=>cases h with|plain h=>exact h
 |agg _=>cases hp
 |tuple _=>cases hp
 |ptr _ _=>cases hp
 |cW _=>cases hp
 |func _ _=>cases hp
 |cz _=>cases hp
 |dp _=>cases hp
 |du _ _=>cases hp
 |aZ _ _ _ _ _=>cases hp
 |cV _ _ _ _=>cases hp
 |iA _ _=>cases hp
 |bI _ _=>cases hp
 |cA _ _ _ _=>cases hp
 |fK _=>cases hp
 |dI _ _ _=>cases hp
 |any=>cases hp
def ud.oq {j:J} {M:ag} {w:World} {x:ae} {v:Value} (h:bQ j M w x v) (hp:x.plain=true):ud w (fJ j M w) x v:=by
 by_cases hag:∃cs,x = .agg cs
 ·obtain ⟨cs,rfl⟩:=hag
  obtain ⟨us,h1,h2,h3⟩:=h.eK
  refine ⟨us,h1,h2,fun i c u hc hu => .oq (h3 i c u hc hu) ?_⟩
  simp only [ae.plain,List.all_eq_true] at hp
  exact hp c (List.mem_of_getElem? hc)
 ·have e1:x.plain=x.plainCell:=by cases x<;>first|rfl|exact absurd ⟨_,rfl⟩ hag
  have:=bF.oq h (e1▸hp)
  cases x<;>first|exact absurd ⟨_,rfl⟩ hag|exact this
def F3 {j:J} {M:ag} {w:World} {x:ae} {v:Value} (h:bQ j M w x v):bQ j M w x.bS v:=by
 have hs:∀ {x:ae} {v:Value},bQ j M w x v->bQ j M w x.shut v:=fun {x v} h=>by
  cases x<;>first|exact h|exact .plain h.bg
 by_cases hag:∃cs,x = .agg cs
 ·obtain ⟨cs,rfl⟩:=hag
  obtain ⟨us,rfl,h2,h3⟩:=h.eK
  refine .agg (by simpa using h2) fun i c u hc hu=>?_
  rw [List.getElem?_map,Option.map_eq_some_iff] at hc
  obtain ⟨c0,hc0,rfl⟩:=hc
  exact hs (h3 i c0 u hc0 hu)
 ·cases x<;>first|exact absurd ⟨_,rfl⟩ hag|exact h|exact .plain h.bg
section
variable {P:Program} {C:bt} {o:Oper} {env:Env} {M:ag} {j:J} {w:World} {a:Act} {x:ae×ag}
def KX (hr:Rel j M w) (he:aL j M w env a) {f:Nat} {first caps:Array Operand} {zs:List cj} (hop:o.op = .makeFunc (.func f) first caps) (hf:caps.isEmpty=true) (hz:mb first.toList=some zs)
  (h:bd C env M (.uN f zs)=some x):∃v w',im P o a w v w'/\cG j M w x v w':=by
 simp only [bd] at h
 split at h
 ·rename_i hp
  injection h with h; subst h
  obtain ⟨h1,h2⟩:=kV he hz
  have hf':caps = #[]:=by simpa using hf
  refine ⟨.func (.func f) (first.map a.eval) #[],w,.inl ?_,.still hr (.iA (by simpa using h1) fun i c v hc hv=>?_)⟩
  ·simp [execOp,hop,Instr.makeFunc,hf']
  ·have hpc:=List.all_eq_true.1 hp c (List.mem_of_getElem? hc)
   rw [List.getElem?_map,Option.map_eq_some_iff] at hc
   obtain ⟨y,hy,rfl⟩:=hc
   rw [Array.getElem?_map,Option.map_eq_some_iff] at hv
   obtain ⟨z,hz',rfl⟩:=hv
   exact .oq (F3 (h2 i y z hy (by simpa using hz'))) hpc
 ·cases h
def FG (hr:Rel j M w) (he:aL j M w env a) {y i:Operand} {z z':cj} {t e:TypeId} {len n:Nat} (hop:o.op = .indexAddr t y i) (ht:P.underlying t=some (.array len e)) (hn:hZ P e=some n)
  (hz:bo y=some z) (hz':bo i=some z') (h:bd C env M (.nW len n z z')=some x):∃v w',im P o a w v w'/\cG j M w x v w':=by
 simp only [bd] at h
 have h1:=aN he hz
 have h2:=aN he hz'
 split at h
 ·rename_i cs k m ez ez'
  obtain ⟨⟨h0,hm,hle⟩,h⟩:=aP h
  injection h with h; subst h
  rw [ez] at h1
  rw [ez'] at h2
  obtain ⟨b,off,vs,hv,hc⟩:=h1.kY
  refine ⟨.pointer (some ⟨b,off+m.toNat*n,none⟩),w,.inl ?_,.still hr (.cW (vs:=fun q=>vs (m.toNat*n+q)) fun q c hq=>?_)⟩
  ·simp [execOp,hop,Instr.indexAt,bf ht,hv,h2.bH,asIntOf,h0,hm,cY hn,eV,Instr.sureAddr]
  ·rw [List.getElem?_drop] at hq
   have h3:=hc _ c hq
   rw [Nat.add_assoc]
   exact h3
 ·rename_i id off k m ez ez'
  obtain ⟨⟨h0,hm⟩,h⟩:=aP h
  injection h with h; subst h
  rw [ez] at h1
  rw [ez'] at h2
  obtain ⟨b,h3,h4,h5,hv⟩:=h1.gW
  refine ⟨.pointer (some ⟨b,off+m.toNat*n,none⟩),w,.inl ?_,.still hr (.ptr h3 h4 h5)⟩
  simp [execOp,hop,Instr.indexAt,bf ht,hv,h2.bH,asIntOf,h0,hm,cY hn,eV,Instr.sureAddr]
 ·cases h
def FH (hr:Rel j M w) (he:aL j M w env a) {y i:Operand} {z z':cj} {t e:TypeId} {len:Nat} (hop:o.op = .index t y i) (ht:P.underlying t=some (.array len e)) (hn:hZ P e=some 1) (hg:qu P e=some false)
  (hz:bo y=some z) (hz':bo i=some z') (h:bd C env M (.nY len z z')=some x):∃v w',im P o a w v w'/\cG j M w x v w':=by
 simp only [bd] at h
 have h1:=aN he hz
 have h2:=aN he hz'
 split at h
 ·rename_i cs k m ez ez'
  obtain ⟨⟨h0,hm⟩,h⟩:=aP h
  obtain ⟨c,hc,h⟩:=au h
  injection h with h; subst h
  rw [ez] at h1
  rw [ez'] at h2
  obtain ⟨us,hv,hl,hu⟩:=h1.eK
  have hi:=aj hc
  have hui:us[m.toNat]?=some (us[m.toNat]'(by omega)):=Array.getElem?_eq_getElem (by omega)
  refine ⟨_,w,.inl ?_,.still hr (hu _ c _ hc hui)⟩
  simp [execOp,hop,Instr.index,bf ht,hv,h2.bH,asIntOf,h0,hm,cY hn,part,dZ hg,hui]
 ·cases h
def S5 (hr:Rel j M w) (he:aL j M w env a) {y:Operand} {z:cj} {s d e:TypeId} (hop:o.op = .convert s d y) (hs:P.underlying s=some .string) (hd:P.underlying d=some (.slice e)) (hu:P.underlying e=some (.int .u8))
  (hz:bo y=some z) (h:bd C env M (.T7 z)=some x):∃v w',im P o a w v w'/\cG j M w x v w':=by
 simp only [bd] at h
 have h1:=aN he hz
 split at h
 ·rename_i l ev
  injection h with h; subst h
  rw [ev] at h1
  have hv:=h1.dx
  have hrun:=run_bytes_of_string (P:=P) w s d e (bs l) hs hd hu
  generalize hcap:grownCap w (bs l).size 0 e=cap at hrun
  rw [qP] at hrun
  have hle:l.length<=cap:=by
   rw [<-hcap,qP]; simp [grownCap,Question.cut]
  generalize hrow:bytesRow (bs l) cap=row at hrun
  have hb:∀b,b<w.heap.size->(w.drew.alloc (.cells row e (row.size,row.size+1))).heap[b]?=w.heap[b]?:=fun b hb=>by
   show (w.heap.push _)[b]?=_
   rw [Array.getElem?_push,if_neg (by omega)]
  have hsz:w.heap.size<=(w.drew.alloc (.cells row e (row.size,row.size+1))).heap.size:=by
   show _<=(w.heap.push _).size; simp
  have hcell:∀p u,l[p]?=some u->(w.drew.alloc (.cells row e (row.size,row.size+1))).cell? ⟨w.heap.size,p,none⟩=some (.int .u8 u.toNat):=fun p u hp=>by
   have h2:(w.drew.alloc (.cells row e (row.size,row.size+1))).heap[w.heap.size]?=some (.cells row e (row.size,row.size+1)):=by
    show (w.heap.push _)[w.heap.size]?=_
    simp
   simp only [World.cell?,h2]
   rw [<-hrow]
   have hpl:=aj hp
   unfold bytesRow
   rw [Array.getElem?_append_left (by simpa [bs] using hpl)]
   simp [bs,hp]
  refine ⟨_,_,.inl (by simp only [execOp,hop,hv,Sem.run_bind,hrun]; rfl),j,hr.grow hsz rfl rfl rfl hb,Ext.grow hsz rfl rfl rfl hb,.plain ?_⟩
  refine .slice _ _ _ _ w.heap.size 0 1 (fun p => .int .u8 ((l[p]?).getD 0).toNat) (by simp) hle (fun _=>rfl) (fun y hy=>?_) (fun i y k c hi hk=>?_) (fun i y k c hi hk=>?_)
  ·obtain ⟨u,_,rfl⟩:=List.mem_map.1 hy
   rfl
  ·rw [List.getElem?_map,Option.map_eq_some_iff] at hi
   obtain ⟨u,hu',rfl⟩:=hi
   match k with
   |0 =>
    simp only [Nat.mul_one,Nat.add_zero,Nat.zero_add,hu',Option.getD_some]
    refine ⟨hcell i u hu',⟨?_,fun id hid hj=>?_,fun hx=>?_⟩⟩
    ·show w.heap.size<(w.heap.push _).size; simp
    ·exact absurd (hr.lt id _ hid hj) (Nat.lt_irrefl _)
    ·exact absurd (hr.qo _ _ hx) (Nat.lt_irrefl _)
   |k+1=>simp [ae.cells,jk] at hk
  ·rw [List.getElem?_map,Option.map_eq_some_iff] at hi
   obtain ⟨u,hu',rfl⟩:=hi
   match k with
   |0 =>
    simp [ae.cells,jk] at hk
    subst hk
    simp only [Nat.mul_one,Nat.add_zero,hu',Option.getD_some]
    exact .int _ _
   |k+1=>simp [ae.cells,jk] at hk
 ·cases h
def C5 (l:List UInt8):wid (l.map jk) 1:=fun x hx=>by
 obtain ⟨b,_,rfl⟩:=List.mem_map.1 hx
 rfl
def xA (hr:Rel j M w) {c:Call} {y y':Operand} {t t' e:TypeId} {d':TypeDesc} {i:TypeInfo} {zv:Value} (hop:o.op = .call c) (hb:c.callee = .builtin .append) (ha:c.args.toList=[y,y'])
  (hat:c.argTypes = #[t,t']) (hs:P.underlying t=some (.slice e)) (hs':P.underlying t'=some d') (hd':∀k,d' ≠ .int k) (hi:P.info? e=some i) (hz:i.zero=some zv) (hzs:zv.cells.size=i.size) (hpos:i.size=1) (hb0:i.bytes=1)
  {k te:Nat} {xb:Bool} {l m:List UInt8} (r1:bQ j M w (.cA k te xb l) (a.eval y)) (hlen:∀w':World,(Builtin.lenOf (a.eval y')).run P w' = .ok m.length w') {uy:Nat->Value}
  (fy1:∀w':World,w'.heap=w.heap->(Builtin.firstCells i.size m.length (a.eval y')).run P w' = .ok (((List.range (m.length*i.size)).map uy).toArray) w')
  (fy2:∀(q:Nat) (y:ae) (k:Nat) (c:ae),(m.map jk)[q]?=some y->y.cells[k]?=some c->bF w (fJ j M w) c (uy (q*i.size+k)))
  (h:(match nth M k with
   |some (.tick sz n)=>aV (sz=1/\te=e/\n=l.length/\bB (l.length+m.length) 1) (some (ae.cA k te xb (l++m),cS M k (.tick 1 (l.length+m.length))))
   |_=>none)=some x):∃v w',im P o a w v w'/\cG j M w x v w':=by
 split at h
 ·rename_i sz n hM
  obtain ⟨⟨h1,h2,h3,h4⟩,h5⟩:=aP h
  subst h1; subst h2; subst h3
  injection h5 with h5
  subst h5
  rw [bE] at hM
  obtain ⟨n0,g1,g2,g3,g4⟩:=r1.vE
  rw [hM] at g1; injection g1 with g1; injection g1 with _ g1; subst g1
  have hT:=g4 rfl
  have hown:bQ j M w (.slice (.own k) (l.map jk)) (a.eval y):=by
   refine .own (sz:=1) (n:=l.length) hM (by simp) g3 fun _=>?_
   rcases hT with ⟨q1,q2,q3⟩|⟨b,cap,vs,q0,q1,q2,q3,q4,q5⟩
   ·exact .inl ⟨q1,q2,q3.imp fun _ h=>h.1⟩
   ·exact .inr ⟨b,cap,vs,te,q1,q2,q3,by omega,q5⟩
  obtain ⟨v,w',j',k1,k2,k3,k4,k5,k6⟩:=th (ys:=m.map jk) (uy:=uy) (x:=(.slice (.own k) (l.map jk++m.map jk),cS M k (.tick 1 (l.length+m.length)))) hr hop hb ha hat hs hs' hd' hi hz hzs (by omega) (by omega) (by omega) hown
   (fun w'=>by simpa using hlen w') (fun w' hw'=>by simpa using fy1 w' hw') fy2 (by
    rw [aM ⟨by rw [hb0]; simpa using h4,by rw [hpos]; exact C5 l,by rw [hpos]; exact C5 m⟩]
    simp only [bE,hM]
    rw [aM ⟨hpos.symm,by simp⟩]
    simp [hpos])
  refine ⟨v,w',k1,j',k2,k3,?_⟩
  obtain ⟨sz',n',p1,p2,p3,p4⟩:=k4.DV
  have hset:(cS M k (.tick 1 (l.length+m.length)))[k]?=some (.tick 1 (l.length+m.length)):=by rw [cd]; exact aU (aj hM)
  simp only at p1
  rw [hset] at p1; injection p1 with p1; injection p1 with e1 e2
  subst e1; subst e2
  refine .cA hset (by simp) (by simpa using p3) fun _=>?_
  by_cases hm:m=[]
  ·subst hm
   have hv:=k5 rfl
   obtain ⟨hv,hj0⟩:=hv
   have hj0:=hj0 k rfl
   subst hj0
   rcases hT with ⟨q1,q2,q3⟩|⟨b,cap,vs,q0,q1,q2,q3,q4,q5⟩
   ·exact .inl ⟨q1,by simpa using q2,by rw [hv]; exact q3⟩
   ·rcases p4 (by simp) with ⟨u1,u2,A,u3⟩|⟨b',cap',vs',t',u1,u2,u3,u4,u5⟩
    ·have u2':l.length+([]:List UInt8).length=0:=u2
     rw [List.length_nil] at u2'; omega
    ·have htag:=k6 k b' rfl u1
     have:t'=te:=by
      rcases htag with h|⟨vs2,h⟩
      ·rw [q1] at h; injection h with h; subst h
       obtain ⟨vs3,fr3,h,_⟩:=k3.tags _ _ _ _ q3
       rw [u3] at h; injection h with h; injection h
      ·rw [u3] at h; injection h with h; injection h
     subst this
     exact .inr ⟨b',cap',vs',by simp; omega,u1,u2,u3,by omega,u5⟩
  ·have hml:0<m.length:=List.length_pos_iff.2 hm
   rcases p4 (by simp) with ⟨u1,u2,A,u3⟩|⟨b',cap',vs',t',u1,u2,u3,u4,u5⟩
   ·omega
   ·have htag:=k6 k b' rfl u1
    have:t'=te:=by
     rcases htag with h|⟨vs2,h⟩
     ·rcases hT with ⟨q1,q2,q3⟩|⟨b,cap,vs,q0,q1,q2,q3,q4,q5⟩
      ·rw [q1] at h; cases h
      ·rw [q1] at h; injection h with h; subst h
       obtain ⟨vs3,fr3,h,_⟩:=k3.tags _ _ _ _ q3
       rw [u3] at h; injection h with h; injection h
     ·rw [u3] at h; injection h with h; injection h
    subst this
    exact .inr ⟨b',cap',vs',by omega,u1,u2,u3,by omega,u5⟩
 ·cases h
def CK (hr:Rel j M w) (he:aL j M w env a) {c:Call} {y y':Operand} {z z':cj} {t t' e:TypeId} {i:TypeInfo} {zv:Value} (hop:o.op = .call c) (hb:c.callee = .builtin .append) (ha:c.args.toList=[y,y'])
  (hat:c.argTypes = #[t,t']) (hs:P.underlying t=some (.slice e)) (hs':P.underlying t'=some .string) (hi:P.info? e=some i) (hz:i.zero=some zv) (hzs:zv.cells.size=i.size) (hpos:i.size=1) (hb0:i.bytes=1)
  (hzy:bo y=some z) (hzy':bo y'=some z') (h:bd C env M (.lr e z z')=some x):∃v w',im P o a w v w'/\cG j M w x v w':=by
 simp only [bd] at h
 have r1:=aN he hzy
 have r2:=aN he hzy'
 split at h
 ·rename_i k te xb l m ez ez'
  rw [ez] at r1
  rw [ez'] at r2
  have hv':=r2.dx
  refine xA hr hop hb ha hat hs hs' (fun k h=>by cases h) hi hz hzs hpos hb0 r1 (m:=m) (uy:=fun p => .int .u8 ((m[p]?).getD 0).toNat) (fun w'=>?_) (fun w' _=>?_) (fun q y k c hq hk=>?_) h
  ·rw [hv']; simp [Builtin.lenOf,qP]
  ·rw [hv']
   simp only [Builtin.firstCells,Sem.run_pure,hpos,Nat.mul_one]
   congr 1
   rw [show ((bs m).extract 0 m.length)=bs m by rw [mT]; simp]
   apply Array.ext'
   simp only [bs,Array.toList_map]
   apply List.ext_getElem?
   intro p
   rw [List.getElem?_map,List.getElem?_map]
   rcases Nat.lt_or_ge p m.length with hp|hp
   ·simp [hp,List.getElem?_eq_getElem hp]
   ·rw [List.getElem?_eq_none (by simpa using hp),List.getElem?_eq_none (by simpa using hp)]
    rfl
  ·rw [List.getElem?_map,Option.map_eq_some_iff] at hq
   obtain ⟨b,hb',rfl⟩:=hq
   cases k with
   |zero =>
    simp [ae.cells,jk] at hk
    subst hk
    simp only [hpos,Nat.mul_one,Nat.add_zero,hb',Option.getD_some]
    exact .int _ _
   |succ k=>simp [ae.cells,jk] at hk
 ·cases h
def CI (hr:Rel j M w) (he:aL j M w env a) {c:Call} {y y':Operand} {z z':cj} {t t' e e':TypeId} {i:TypeInfo} {zv:Value} (hop:o.op = .call c) (hb:c.callee = .builtin .append) (ha:c.args.toList=[y,y'])
  (hat:c.argTypes = #[t,t']) (hs:P.underlying t=some (.slice e)) (hs':P.underlying t'=some (.slice e')) (hi:P.info? e=some i) (hz:i.zero=some zv) (hzs:zv.cells.size=i.size) (hpos:i.size=1) (hb0:i.bytes=1)
  (hzy:bo y=some z) (hzy':bo y'=some z') (h:bd C env M (.kc e z z')=some x):∃v w',im P o a w v w'/\cG j M w x v w':=by
 simp only [bd] at h
 have r1:=aN he hzy
 have r2:=aN he hzy'
 split at h
 ·rename_i k te xb l tk ys ez ez'
  obtain ⟨m,hm,h⟩:=au h
  rw [ez] at r1
  rw [ez'] at r2
  have p2:=r2.bg
  obtain ⟨hys,h9⟩:=aP h
  clear h
  subst hys
  obtain ⟨uy,fy1,fy2,_⟩:=sf (P:=P) p2 (show wid (m.map jk) i.size by rw [hpos]; exact C5 m) (by omega)
  obtain ⟨A,cap',_,_,_,_,hv',_⟩:=p2.bg
  exact xA hr hop hb ha hat hs hs' (fun k h=>by cases h) hi hz hzs hpos hb0 r1 (m:=m) (uy:=uy) (fun w'=>by rw [hv',List.length_map]; rfl) (fun w' hw'=>by simpa using fy1 w' hw') fy2 h9
 ·cases h
def AL (hr:Rel j M w) {t e:TypeId} {xb:Bool} {rest:List ae} {us:List Value} {A:Option Addr} (hA:xb=true->A=none) (hl:rest.length=us.length) (hc:∀(i:Nat) (c:ae) (v:Value),rest[i]?=some c->us[i]?=some v->bQ j M w c v) :
  cG j M w (.ptr (M.length+1) 0,M++[.tick 1 0,.cells (.bI (M.length+1) t :: .cA M.length e xb []::rest)]) (.pointer (some ⟨w.heap.size,0,none⟩)) { w with heap:=w.heap.push (.cells (Value.pointer none :: .slice A 0 0::us).toArray t (0,0)) }:=by
 have q:Quiet w w:=⟨Nat.le_refl _,rfl,rfl,rfl⟩
 have hr1:Rel (bX j M.length none) (M++[.tick 1 0]) w:=hr.push (ob:=none) (fun b h=>by cases h) q (fun _ _=>rfl) (fun h=>by cases h) (fun sz n b h h'=>by cases h')
 have hx1:Ext j M w (bX j M.length none) (M++[.tick 1 0]) w:=Ext.push (fun b h=>by cases h) q (fun _ _=>rfl)
 generalize hzv:(Value.pointer none :: .slice A 0 0::us).toArray=zv
 have q2:Quiet w { w with heap:=w.heap.push (.cells zv t (0,0)) }:=⟨by simp,rfl,rfl,rfl⟩
 have hb:∀b,b<w.heap.size->({ w with heap:=w.heap.push (.cells zv t (0,0)) }:World).heap[b]?=w.heap[b]?:=fun b hb=>by
  show (w.heap.push _)[b]?=_
  rw [Array.getElem?_push,if_neg (by omega)]
 have hn:({ w with heap:=w.heap.push (.cells zv t (0,0)) }:World).heap[w.heap.size]?=some (.cells zv t (0,0)):=by simp
 have hob:∀b,some w.heap.size=some b->w.heap.size<=b/\b<({ w with heap:=w.heap.push (.cells zv t (0,0)) }:World).heap.size:=fun b h=>by
  injection h with h; subst h; exact ⟨Nat.le_refl _,by simp⟩
 have hx2:Ext (bX j M.length none) (M++[.tick 1 0]) w (bX (bX j M.length none) (M++[aK.tick 1 0]).length (some w.heap.size)) (M++[.tick 1 0]++[.cells (.bI (M.length+1) t :: .cA M.length e xb []::rest)]) { w with heap:=w.heap.push (.cells zv t (0,0)) } :=
  Ext.push (fun b h=>(hob b h).1) q2 hb
 have hr2:Rel (bX (bX j M.length none) (M++[aK.tick 1 0]).length (some w.heap.size)) (M++[.tick 1 0]++[.cells (.bI (M.length+1) t :: .cA M.length e xb []::rest)]) { w with heap:=w.heap.push (.cells zv t (0,0)) }:=by
  refine hr1.PV hob q2 hb (fun _=>⟨_,rfl,fun hx=>⟨zv,t,hn,?_,fun i c v hc' hv=>?_⟩⟩) (fun sz n b h=>by cases h)
  ·rw [<-hzv]; simp [hl]
  ·match i,hc' with
   |0,hc' =>
    injection hc' with hc'; subst hc'
    rw [<-hzv] at hv
    have:v = .pointer none:=by simpa using hv.symm
    subst this
    exact .bI (b:=w.heap.size) ⟨.bI (M.length+1) t :: .cA M.length e xb []::rest,by simp⟩ (by simp [bX]) ⟨_,_,hn⟩ (.inl rfl)
   |1,hc' =>
    injection hc' with hc'; subst hc'
    rw [<-hzv] at hv
    have:v = .slice A 0 0:=by simpa using hv.symm
    subst this
    exact .cA (n:=0) (by simp) (by simp) (bF.nil _ _ _) fun _ => .inl ⟨by simp [bX],rfl,A,rfl,hA⟩
   |i+2,hc' =>
    have hc2:rest[i]?=some c:=hc'
    rw [<-hzv] at hv
    exact (hc i c v hc2 (by simpa using hv)).mono (hx1.trans hx)
 refine ⟨bX (bX j M.length none) (M++[aK.tick 1 0]).length (some w.heap.size),?_,?_,?_⟩
 ·simpa using hr2
 ·simpa using hx1.trans hx2
 ·have hp:bQ (bX (bX j M.length none) (M++[aK.tick 1 0]).length (some w.heap.size)) (M++[.tick 1 0]++[.cells (.bI (M.length+1) t :: .cA M.length e xb []::rest)]) { w with heap:=w.heap.push (.cells zv t (0,0)) } (.ptr (M.length+1) 0) (.pointer (some ⟨w.heap.size,0,none⟩)) :=
   .ptr (by simp) ⟨.bI (M.length+1) t :: .cA M.length e xb []::rest,by simp⟩ (by simp [bX])
  simpa using hp
def xQ {rest:List ae} {vs:Array Value} (hl:rest.length+2=vs.size) (hc:∀(i:Nat) (c:ae) (v:Value),(ae.raw (.pointer none) :: .slice .c0 []::rest)[i]?=some c->vs[i]?=some v->bQ j M w c v) :
  ∃A us,vs=(Value.pointer none :: .slice A 0 0::us).toArray/\rest.length=us.length/\∀(i:Nat) (c:ae) (v:Value),rest[i]?=some c->us[i]?=some v->bQ j M w c v:=by
 obtain ⟨l⟩:=vs
 match l,hl with
 |v0::v1::us,hl =>
  have h0:=hc 0 _ v0 rfl rfl
  have h1:=hc 1 _ v1 rfl rfl
  have e0:v0 = .pointer none:=by
   cases h0 with
   |plain h=>cases h; rfl
  obtain ⟨A,e1⟩:=h1.uO
  subst e0; subst e1
  exact ⟨A,us,rfl,by simpa using hl,fun i c v h2 h3=>hc (i+2) c v h2 (by simpa using h3)⟩
 | [v0],hl=>simp at hl
 | [],hl=>simp at hl
def Ow (hr:Rel j M w) {t e:TypeId} {i:TypeInfo} {zv:Value} {l:List ae} (hop:o.op = .alloc t) (hi:P.info? t=some i) (hzv:i.zero=some zv) (hl:jL zv.cells.toList=some l)
  (h:bd C env M (.BK t e l)=some x):∃v w',im P o a w v w'/\cG j M w x v w':=by
 simp only [bd] at h
 split at h
 ·rename_i rest
  injection h with h; subst h
  obtain ⟨h1,h2⟩:=gJ (j:=j) (M:=M) (w:=w) hl
  obtain ⟨A,us,e1,e2,e3⟩:=xQ (vs:=zv.cells) (by simpa using h1) (fun i c v hc hv=>h2 i c v hc (by simpa using hv))
  have hA:A=none:=by
   rw [e1] at hl
   simp only [jL] at hl
   rw [Option.bind_eq_some_iff] at hl
   obtain ⟨x0,_,hl⟩:=hl
   rw [Option.bind_eq_some_iff] at hl
   obtain ⟨l1,hl1,_⟩:=hl
   rw [Option.bind_eq_some_iff] at hl1
   obtain ⟨x1,hx1,_⟩:=hl1
   cases A with
   |none=>rfl
   |some a=>simp [zm] at hx1
  refine ⟨.pointer (some ⟨w.heap.size,0,none⟩),{ w with heap:=w.heap.push (.cells zv.cells t (0,0)) },.inl (by simp [execOp,hop,Instr.alloc,zeroValue,gu hi,hzv,newVar,newRow]),?_⟩
  rw [e1]
  exact AL hr (fun _=>hA) e2 e3
 ·cases h
def Oy (hr:Rel j M w) (he:aL j M w env a) {t e:TypeId} {y:Operand} {z:cj} (hop:o.op = .box t y) (hz:bo y=some z)
  (h:bd C env M (.BL t e z)=some x):∃v w',im P o a w v w'/\cG j M w x v w':=by
 simp only [bd] at h
 have h1:=aN he hz
 split at h
 ·rename_i cs ev
  split at h
  ·rename_i rest
   injection h with h; subst h
   rw [ev] at h1
   obtain ⟨vs,hv,hl,hc⟩:=h1.eK
   obtain ⟨A,us,e1,e2,e3⟩:=xQ (vs:=vs) (by simpa using hl) hc
   refine ⟨.pointer (some ⟨w.heap.size,0,none⟩),{ w with heap:=w.heap.push (.cells vs t (0,0)) },.inl (by simp [execOp,hop,Instr.box,newVar,newRow,hv,Value.cells]),?_⟩
   rw [e1]
   exact AL hr (fun h=>by cases h) e2 e3
  ·cases h
 ·cases h
def FQ (hr:Rel j M w) {id q sz:Nat} {cs:List ae} (hM:M[id]?=some (.cells cs)) (hc:cs[q]?=some (.slice .c0 [])) :
  ∃j',Rel j' (M.set id (.cells (cs.set q (.slice (.own M.length) [])))++[.tick sz 0]) w/\Ext j M w j' (M.set id (.cells (cs.set q (.slice (.own M.length) [])))++[.tick sz 0]) w:=by
 have q0:Quiet w w:=⟨Nat.le_refl _,rfl,rfl,rfl⟩
 have hr1:Rel (bX j M.length none) (M++[.tick sz 0]) w:=hr.push (ob:=none) (fun b h=>by cases h) q0 (fun _ _=>rfl) (fun h=>by cases h) (fun sz n b h h'=>by cases h')
 have hx1:Ext j M w (bX j M.length none) (M++[.tick sz 0]) w:=Ext.push (fun b h=>by cases h) q0 (fun _ _=>rfl)
 have hid:=aj hM
 have hM1:(M++[aK.tick sz 0])[id]?=some (.cells cs):=by rw [oN hid]; exact hM
 obtain ⟨b,vs,t,hj,hw,hl,hcs⟩:=hr.box id cs hM
 have hj1:bX j M.length none id=some b:=by simp [bX,Nat.ne_of_lt hid,hj]
 have hset:M.set id (aK.cells (cs.set q (.slice (.own M.length) [])))++[aK.tick sz 0]=(M++[aK.tick sz 0]).set id (aK.cells (cs.set q (.slice (.own M.length) []))):=by rw [List.set_append_left _ _ hid]
 rw [hset]
 have hh:∀j' M',Ext (bX j M.length none) (M++[.tick sz 0]) w j' M' w->Holds j' M' w b (.cells (cs.set q (.slice (.own M.length) []))):=fun j' M' hx=>⟨vs,t,hw,by simpa using hl,fun p c v hc' hv=>bQ.mono hx ?_⟩
 ·exact ⟨_,Rel.store hM1 rfl rfl hj1 hr1 q0 (fun _ _ _=>rfl) (fun vs t fr h=>⟨vs,fr,h,rfl⟩) hh,hx1.trans (Ext.store hM1 rfl rfl hj1 hr1 q0 (fun _ _ _=>rfl) (fun vs t fr h=>⟨vs,fr,h,rfl⟩))⟩
 ·by_cases hp:q=p
  ·subst hp
   rw [List.getElem?_set_self (aj hc)] at hc'
   injection hc' with hc'; subst hc'
   have h1:=hcs q _ v hc hv
   obtain ⟨A,hA⟩:∃A,v = .slice A 0 0:=by
    cases h1 with
    |plain h=>cases h
    |c0 A=>exact ⟨A,rfl⟩
   rw [hA]
   exact .own (sz:=sz) (n:=0) (by simp) (by simp) (bF.nil _ _ _) fun _ => .inl ⟨by simp [bX],rfl,A,rfl⟩
  ·rw [List.getElem?_set_ne hp] at hc'
   exact bQ.mono hx1 (hcs p c v hc' hv)
def Bo {cs new:List ae} {off p:Nat} {x:ae} (h:off+new.length<=cs.length) (hp:p<new.length):fD cs off (new.set p x)=(fD cs off new).set (off+p) x:=by
 apply List.ext_getElem?
 intro i
 rw [iI (by simpa using h)]
 by_cases hi:off+p=i
 ·subst hi
  rw [List.getElem?_set_self (by rw [lK h]; omega),if_pos (by simp; omega),show off+p-off=p by omega,List.getElem?_set_self hp]
 ·rw [List.getElem?_set_ne hi,iI h]
  simp only [List.length_set]
  split
  ·rename_i hc
   rw [List.getElem?_set_ne (by omega)]
  ·rfl
def FM (hr:Rel j M w) (he:aL j M w env a) {y y':Operand} {z z':cj} {t:TypeId} {n sz p:Nat} (hop:o.op = .store t y y') (hn:hZ P t=some n) (hz:bo y=some z) (hz':bo y'=some z')
  (h:bd C env M (.sW sz p n z z')=some x):∃v w',im P o a w v w'/\cG j M w x v w':=by
 simp only [bd] at h
 split at h
 ·rename_i id off e
  split at h
  ·rename_i cs hM
   obtain ⟨new,dH,h⟩:=au h
   split at h
   ·rename_i hp
    split at h
    ·rename_i hcond
     injection h with h; subst h
     have hs:bd C env M (.store n z z')=some (.any,cS M id (.cells (fD cs off new))):=by
      simp only [bd,e,hM,dH,aE]
      rw [if_pos hcond]
     obtain ⟨v,w',h1,j',h2,h3,h4⟩:=vH hr he hop hn hz hz' hs
     rw [bE] at hM hp
     have hlt:=aj hM
     have hpl:=aj hp
     have hle:off+new.length<=cs.length:=by omega
     rw [cd] at h2 h3 h4
     have hM2:(M.set id (.cells (fD cs off new)))[id]?=some (.cells (fD cs off new)):=aU hlt
     have hc2:(fD cs off new)[off+p]?=some (.slice .c0 []):=by
      rw [iI hle,if_pos (by omega),show off+p-off=p by omega]
      exact hp
     obtain ⟨j'',k1,k2⟩:=FQ (sz:=sz) h2 hM2 hc2
     rw [List.set_set,List.length_set] at k1 k2
     rw [cd,cd,Bo hle hpl]
     exact ⟨v,w',h1,j'',k1,h3.trans k2,.any _⟩
    ·cases h
   ·cases h
  ·cases h
 ·cases h
end
section
variable {P:Program} {C:bt} {o:Oper} {env:Env} {M:ag} {j:J} {w:World} {a:Act} {x:ae×ag}
def Gb {x:ae} {u v:Value} (h:valOf x=some u) (hr:bQ j M w x v):v=u:=by
 unfold valOf at h
 split at h
 ·injection h with h; subst h; exact hr.bH
 ·rename_i k n
  injection h with h; subst h
  obtain ⟨vs,rfl,hl,hc⟩:=hr.eK
  have hs:vs.size=1:=by simpa using hl.symm
  have h0:vs[0]?=some (vs[0]'(by omega)):=Array.getElem?_eq_getElem (by omega)
  have h1:=(hc 0 _ _ rfl h0).bH
  congr 1
  apply Array.ext
  ·simpa using hs
  ·intro i h2 h3
   have:i=0:=by omega
   subst this
   simpa using h1
 ·cases h
def bQ.D1 {u v:Value} (h:bQ j M w (.raw u) v):v=u:=by cases h with|plain h=>cases h; rfl
def K6 (hr:Rel j M w) (he:aL j M w env a) {t:TypeId} {y:Operand} {z:cj} {d:TypeDesc} (hop:o.op = .makeInterface t y) (hu:P.underlying t=some d) (hd:∀m,d ≠ .interface m) (hz:bo y=some z)
  (h:bd C env M (.iface t z)=some x):∃v w',im P o a w v w'/\cG j M w x v w':=by
 simp only [bd] at h
 have h1:=aN he hz
 split at h
 ·rename_i id off e
  injection h with h; subst h
  rw [e] at h1
  obtain ⟨b,_,hc,hj,hy⟩:=h1.gW
  refine ⟨_,w,.inl ?_,.still hr (.dI hc hj)⟩
  simp only [execOp,hop,Instr.makeInterface,hy]
  cases d<;>first|exact absurd rfl (hd _)|simp [bf hu]
 obtain ⟨v,hv,h⟩:=au h
 injection h with h; subst h
 have hy:=Gb hv h1
 refine ⟨.iface t v,w,.inl ?_,.still hr (.plain (.raw _ rfl))⟩
 simp only [execOp,hop,Instr.makeInterface,hy]
 cases d<;>first|exact absurd rfl (hd _)|simp [bf hu]
def Ld (hr:Rel j M w) (he:aL j M w env a) {y:Operand} {z:cj} (hop:o.op = .panic y) (hz:bo y=some z) (h:bd C env M (.raise z)=some x) :
  ∃u,(execOp a.eval o).run P w = .halt (.panic u) w/\zf j M w x u w:=by
 simp only [bd] at h
 have h1:=aN he hz
 split at h
 ·rename_i v e
  split at h
  ·rename_i t u
   injection h with h; subst h
   rw [e] at h1
   refine ⟨.iface t u,?_,rfl,j,hr,Ext.refl j M w⟩
   have:a.eval y = .iface t u:=h1.D1
   simp [execOp,hop,Instr.panic,this]
  ·cases h
 ·cases h
end
section
variable {P:Program} {C:bt} {o:Oper} {env:Env} {M:ag} {j:J} {w:World} {a:Act} {x:ae×ag}
def Lg (he:aL j M w env a) {y:Operand} {z:cj} (hz:GH y=some z):bQ j M w (z.ev env) (a.eval y):=by
 unfold GH at hz
 split at hz
 ·injection hz with hz; subst hz
  exact .plain (.raw _ rfl)
 ·exact aN he hz
def G2 {n:Nat} (he:aL j M w env a):∀ {parts:List (Nat×Operand)} {ps:List (Nat×Nat×cj)} {cs cs':List ae} {cells:Array Value},
  oU n parts=some ps->eP env cs ps=some cs'->RC j M w cs cells ->
  ∃cells',Instr.fill (fun i=>some (i*n,n)) cells (parts.map fun p=>(p.1,a.eval p.2))=some cells'/\RC j M w cs' cells':=by
 intro parts
 induction parts with
 |nil =>
  intro ps cs cs' cells h1 h2 h3
  simp [oU] at h1; subst h1
  simp [eP] at h2; subst h2
  exact ⟨cells,rfl,h3⟩
 |cons p r ih =>
  intro ps cs cs' cells h1 h2 h3
  obtain ⟨i,y⟩:=p
  simp only [oU] at h1
  obtain ⟨z,hz,h1⟩:=an h1
  obtain ⟨l,hl,h1⟩:=an h1
  injection h1 with h1; subst h1
  simp only [eP] at h2
  obtain ⟨new,dH,h2⟩:=au h2
  split at h2
  ·rename_i hc
   obtain ⟨c1,c2⟩:=hc
   have hrc:=mc (aN he hz) dH
   obtain ⟨cells',e1,e2⟩:=ih hl h2 (h3.write (off:=i*n) hrc (by omega))
   refine ⟨cells',?_,e2⟩
   have hs1:=hrc.1
   have hs2:=h3.1
   simp only [List.map_cons,Instr.fill]
   rw [if_neg (by simp; omega)]
   exact e1
  ·cases h2
def FC (hr:Rel j M w) (he:aL j M w env a) {t e:TypeId} {len n:Nat} {parts:Array (Nat×Operand)} {i:TypeInfo} {zv:Value} {l:List ae} {ps:List (Nat×Nat×cj)} (hop:o.op = .build t parts)
  (ht:P.underlying t=some (.array len e)) (hi:P.info? t=some i) (hzv:i.zero=some zv) (hl:jL zv.cells.toList=some l) (hn:hZ P e=some n) (hps:oU n parts.toList=some ps)
  (h:bd C env M (.build l ps)=some x):∃v w',im P o a w v w'/\cG j M w x v w':=by
 simp only [bd] at h
 obtain ⟨cs,hcs,h⟩:=au h
 injection h with h; subst h
 obtain ⟨h1,h2⟩:=gJ (j:=j) (M:=M) (w:=w) hl
 obtain ⟨cells',e1,e2⟩:=G2 (n:=n) he hps hcs (cells:=zv.cells) ⟨by simpa using h1,fun i c v hc hv=>h2 i c v hc (by simpa using hv)⟩
 refine ⟨.agg cells',w,.inl ?_,.still hr (.agg e2.1 e2.2)⟩
 have e1':Instr.fill (fun i=>some (i*n,n)) zv.cells (parts.map fun p=>(p.1,a.eval p.2)).toList=some cells':=by simpa using e1
 simp only [execOp,hop,Instr.build,zeroValue,Sem.run_bind,gu hi,Result.andThen_ok,hzv,Sem.run_pure,bf ht,cY hn]
 simp only [e1',Sem.run_pure,Result.andThen_ok]
def Cb {a b:ae} {r:Bool} (h:fq .i a b=some r):∃k x y,a = .int k x/\b = .int k y/\r=(x==y):=by
 cases a<;>cases b<;>first
  |(simp only [fq] at h
    split at h
    ·rename_i hk; subst hk; injection h with h; exact ⟨_,_,_,rfl,rfl,h.symm⟩
    ·cases h)
  |cases h
def tx {d:Nat} {e:TypeId} {k0:IntKind} (hk:P.underlying e=some (.int k0)) (hc1:P.cellsOf e=1) {cs ds:List ae} {us vs:Array Value} (hc:RC j M w cs us) (hd:RC j M w ds vs):∀(n k:Nat) {r:Bool},fm (List.replicate n .i) (cs.drop k) (ds.drop k)=some r ->
  (Op.eqItems (d+1) e (P.cellsOf e) us vs (List.range' k n)).run P w = .ok r w
 |0,k,r,h2=>by
  unfold fm at h2
  split at h2<;>simp_all [Op.eqItems]
 |n+1,k,r,h2=>by
  have hk1:k<cs.length:=by
   rcases Nat.lt_or_ge k cs.length with h|h
   ·exact h
   ·rw [List.drop_eq_nil_of_le h,List.replicate_succ] at h2; simp [fm] at h2
  have hk2:k<ds.length:=by
   rcases Nat.lt_or_ge k ds.length with h|h
   ·exact h
   ·rw [List.drop_eq_nil_of_le h,List.drop_eq_getElem_cons hk1,List.replicate_succ] at h2
    simp [fm] at h2
  rw [List.drop_eq_getElem_cons hk1,List.drop_eq_getElem_cons hk2,List.replicate_succ] at h2
  simp only [fm] at h2
  obtain ⟨e1,he1,h2⟩:=au h2
  obtain ⟨e2,he2,h2⟩:=au h2
  injection h2 with h2; subst h2
  have hlu:k<us.size:=by have:=hc.1; omega
  have hlv:k<vs.size:=by have:=hd.1; omega
  have hu:=Array.getElem?_eq_getElem hlu
  have hv:=Array.getElem?_eq_getElem hlv
  have ih:=tx (d:=d) hk hc1 hc hd n (k+1) he2
  have hr1:=hc.2 k _ _ (List.getElem?_eq_getElem hk1) hu
  have hr2:=hd.2 k _ _ (List.getElem?_eq_getElem hk2) hv
  have hag:qu P e=some false:=by simp [qu,hk]
  have p1:(part e us (k*P.cellsOf e)).run P w = .ok us[k] w:=by simp [part,dZ hag,hc1,hu]
  have p2:(part e vs (k*P.cellsOf e)).run P w = .ok vs[k] w:=by simp [part,dZ hag,hc1,hv]
  have p3:(Op.equalIn (d+1) e us[k] vs[k]).run P w = .ok e1 w:=by
   obtain ⟨kk,x,y,e3,e4,rfl⟩:=Cb he1
   rw [e3] at hr1; rw [e4] at hr2
   rw [hr1.bH,hr2.bH]
   exact run_equalIn_int w d e _ _ x y hk
  rw [List.range'_succ]
  simp only [Op.eqItems,Sem.run_bind,p1,p2,p3,Result.andThen_ok]
  cases e1
  ·simp
  ·simpa using ih
def K2 (hr:Rel j M w) (he:aL j M w env a) {y y':Operand} {z z':cj} {t t' e:TypeId} {len:Nat} {k0:IntKind} (hop:o.op = .binOp .eql t y y' t') (ht:P.underlying t=some (.array len e)) (hk:P.underlying e=some (.int k0)) (hs:hZ P e=some 1)
  (hz:bo y=some z) (hz':bo y'=some z') (h:bd C env M (.MS (List.replicate len .i) false z z')=some x):∃v w',im P o a w v w'/\cG j M w x v w':=by
 simp only [bd] at h
 have h1:=aN he hz
 have h2:=aN he hz'
 split at h
 ·rename_i cs ds ez ez'
  obtain ⟨r,hee,h⟩:=au h
  injection h with h; subst h
  rw [ez] at h1
  rw [ez'] at h2
  obtain ⟨us,hus,hul,huc⟩:=h1.eK
  obtain ⟨vs,hvs,hvl,hvc⟩:=h2.eK
  obtain ⟨inf,hinf,hsz⟩:=vZ hs
  have hc1:P.cellsOf e=1:=by simp [Program.cellsOf,hinf,hsz]
  have heq:(Op.equal t (.agg us) (.agg vs)).run P w = .ok r w:=by
   unfold Op.equal
   rw [show Op.maxDepth=9998+1+1 from rfl,run_equalIn_array w (9998+1) us vs ht hinf,List.range_eq_range']
   exact tx (d:=9998) hk hc1 ⟨hul,huc⟩ ⟨hvl,hvc⟩ len 0 (by simpa using hee)
  have hgt:P.eqGuardType P.depth t=false:=by
   unfold Program.depth
   rw [show 2*(P.types.size+Made.depth)+2=(2*(P.types.size+Made.depth))+1+1 from rfl,Program.eqGuardType,ht]
   simp only [Program.eqGuardType,hk]
  have hguard:∀op,(eqGuard op t y y' (.agg us) (.agg vs)).run P w = .ok () w:=by
   intro op
   unfold eqGuard
   cases op<;>simp [hgt]
  exact ⟨.bool r,w,.inl (by simp [execOp,hop,hus,hvs,hguard,binOp,heq]),.still hr (.plain (.bool _))⟩
 ·cases h
def kU {l:List ae} (hp:0<l.length) (h1:l.all ae.plainCell=true):(ae.agg l).norm.cells=l:=by
 match l with
 | []=>simp at hp
 | [c] =>
  simp only [List.all_cons,List.all_nil,Bool.and_true] at h1
  show c.cells=[c]
  cases c<;>first|rfl|cases h1
 |_::_::_=>rfl
def KM (z:Array Value) (n k:Nat) (h:k<n) (hz:0<z.size):(madeCells z n)[k]?=z[k % z.size]?:=by
 have hm:k % z.size<z.size:=Nat.mod_lt _ hz
 rw [Array.getElem?_eq_getElem hm]
 simp [madeCells,h,hm]
def Ep (w:World) (cu:Nat->Nat->Prop) {v:Value} {c:ae} (h:zm v=some c):bF w cu c.shut v:=by
 unfold zm at h
 split at h<;>first
  |(injection h with h; subst h; first|exact .bool _|exact .int _ _|exact .str _|exact .raw _ rfl|exact bF.nil _ _ _)
  |cases h
def zj:∀ {vs:List Value} {l:List ae},jL vs=some l->∀(i:Nat) (c:ae) (v:Value),l[i]?=some c->vs[i]?=some v->zm v=some c
 | [],l,h,i,c,v,h1,h2=>by simp at h2
 |u::r,l,h,i,c,v,h1,h2=>by
  simp only [jL] at h
  obtain ⟨x,hx,h⟩:=an h
  obtain ⟨l',hl,h⟩:=an h
  injection h with h; subst h
  cases i with
  |zero=>simp at h1 h2; subst h1; subst h2; exact hx
  |succ i=>exact zj hl i c v (by simpa using h1) (by simpa using h2)
def DP {t e:TypeId} {i:TypeInfo} {zv:Value} {l:List ae} {y:Operand} {k:Int} {kk:IntKind} (hop:o.op = .makeSlice t y y) (ht:P.underlying t=some (.slice e)) (hi:P.info? e=some i) (hzv:i.zero=some zv)
  (hl:jL zv.cells.toList=some l) (c1:l.length=i.size) (c2:0<i.size) (c3:i.bytes<=8*i.size) (hev:a.eval y = .int kk k) (h0:0<=k) (hroom:bB k.toNat (8*(l.map ae.shut).length)) (hpl:(l.map ae.shut).all ae.plainCell=true) :
  ∃row:Array Value,(execOp a.eval o).run P w = .ok (.value (.slice (some ⟨w.heap.size,0,none⟩) k.toNat k.toNat)) (w.alloc (.cells row e))/\row.size=k.toNat*i.size /\
   ∀cu (w':World) (q:Nat) (x:ae) (p:Nat) (c:ae),(List.replicate k.toNat (ae.agg (l.map ae.shut)).norm)[q]?=some x->x.cells[p]?=some c->∃v,row[q*i.size+p]?=some v/\bF w' cu c v:=by
 have hls:(l.map ae.shut).length=i.size:=by simpa using c1
 have hzs:zv.cells.size=i.size:=by
  have:=(gJ (j:=⟨fun _=>none,fun _ _=>False⟩) (M:=[]) (w:=w) hl).1
  simp at this; omega
 unfold bB at hroom
 rw [hls] at hroom
 have hb:i.bytes*k.toNat<=2 ^ 44:=by
  refine Nat.le_trans ?_ hroom
  rw [Nat.mul_comm]
  exact Nat.mul_le_mul_left _ c3
 have hk44:k.toNat<=2 ^ 44:=Nat.le_trans (Nat.le_mul_of_pos_right _ (by omega)) hroom
 have hrun:=run_make (P:=P) w t e i zv ht hi hzv kk kk k k h0 (Int.le_refl _) (by
  have:((i.bytes*k.toNat:Nat):Int)<=2 ^ 44:=by exact_mod_cast hb
  rw [Int.natCast_mul,Int.toNat_of_nonneg h0] at this
  omega) (by omega)
 refine ⟨madeCells zv.cells (k.toNat*i.size),by simp [execOp,hop,hev,hrun],size_madeCells _ _,fun cu w' q x p c hx hc=>?_⟩
 rw [List.getElem?_replicate] at hx
 split at hx
 ·rename_i hq
  injection hx with hx; subst hx
  rw [kU (by omega) hpl] at hc
  have hp:p<i.size:=by rw [<-hls]; exact aj hc
  have hlt:q*i.size+p<k.toNat*i.size:=by
   have:(q+1)*i.size<=k.toNat*i.size:=Nat.mul_le_mul_right _ hq
   rw [Nat.add_mul,Nat.one_mul] at this
   omega
  rw [KM _ _ _ hlt (by omega),hzs,Nat.add_comm,Nat.add_mul_mod_self_right,Nat.mod_eq_of_lt hp]
  rw [List.getElem?_map,Option.map_eq_some_iff] at hc
  obtain ⟨c0,hc0,rfl⟩:=hc
  have hpz:p<zv.cells.size:=by omega
  have hv:=Array.getElem?_eq_getElem hpz
  refine ⟨_,hv,?_⟩
  exact Ep w' cu (zj hl p c0 _ hc0 (by simp))
 ·cases hx
def Lb (hr:Rel j M w) (he:aL j M w env a) {t e:TypeId} {i:TypeInfo} {zv:Value} {l:List ae} {y:Operand} {z:cj} (hop:o.op = .makeSlice t y y) (ht:P.underlying t=some (.slice e)) (hi:P.info? e=some i) (hzv:i.zero=some zv)
  (hl:jL zv.cells.toList=some l) (hz:bo y=some z) (c1:l.length=i.size) (c2:0<i.size) (c3:i.bytes<=8*i.size) (h:bd C env M (.SO (l.map ae.shut) z)=some x):∃v w',im P o a w v w'/\cG j M w x v w':=by
 simp only [bd] at h
 have h1:=aN he hz
 split at h
 ·rename_i kk k ek
  obtain ⟨⟨h0,hroom,hpl⟩,h⟩:=aP h
  injection h with h; subst h
  rw [ek] at h1
  obtain ⟨row,hrun,hsz,hel⟩:=DP (w:=w) hop ht hi hzv hl c1 c2 c3 h1.bH h0 hroom hpl
  have hls:(l.map ae.shut).length=i.size:=by simpa using c1
  obtain ⟨q,hb,dH⟩:=iH (w:=w) (.cells row e (0,0))
  refine ⟨_,{ w with heap:=w.heap.push (.cells row e (0,0)) },.inl hrun,?_⟩
  have ext:Ext j M w j M { w with heap:=w.heap.push (.cells row e (0,0)) }:=Ext.grow q.size rfl rfl rfl hb
  have rel:Rel j M { w with heap:=w.heap.push (.cells row e (0,0)) }:=hr.grow q.size rfl rfl rfl hb
  refine ⟨j,rel,ext,.plain (.slice _ _ _ _ w.heap.size 0 i.size (fun p=>(row[p]?).getD undef) (by simp) (Nat.le_refl _) (fun _=>rfl) (fun x hx=>?_) (fun n y k c hn hk=>?_) (fun n y k c hn hk=>?_))⟩
  ·obtain ⟨_,rfl⟩:=List.mem_replicate.1 hx
   rw [kU (by omega) hpl,hls]
  ·obtain ⟨u,hu,_⟩:=hel (fJ j M { w with heap:=w.heap.push (.cells row e (0,0)) }) { w with heap:=w.heap.push (.cells row e (0,0)) } n y k c hn hk
   refine ⟨?_,by simp,fun id hid hj=>?_,fun hx=>absurd (hr.qo _ _ hx) (Nat.lt_irrefl _)⟩
   ·simp only [World.cell?,dH,Nat.zero_add,hu]
    rfl
   ·have:=hr.lt id _ hid hj
    omega
  ·obtain ⟨u,hu,hru⟩:=hel (fJ j M { w with heap:=w.heap.push (.cells row e (0,0)) }) { w with heap:=w.heap.push (.cells row e (0,0)) } n y k c hn hk
   rw [hu]
   exact hru
 ·cases h
def OE (hr:Rel j M w) (he:aL j M w env a) {t e:TypeId} {i:TypeInfo} {zv:Value} {l:List ae} {y:Operand} {z:cj} (hop:o.op = .makeSlice t y y) (ht:P.underlying t=some (.slice e)) (hi:P.info? e=some i) (hzv:i.zero=some zv)
  (hl:jL zv.cells.toList=some l) (hz:bo y=some z) (c1:l.length=i.size) (c2:0<i.size) (c3:i.bytes<=8*i.size) (h:bd C env M (.Fw (l.map ae.shut) z)=some x):∃v w',im P o a w v w'/\cG j M w x v w':=by
 simp only [bd] at h
 have h1:=aN he hz
 split at h
 ·rename_i kk k ek
  obtain ⟨⟨h0,hroom,hpl⟩,h⟩:=aP h
  injection h with h; subst h
  rw [ek] at h1
  obtain ⟨row,hrun,hsz,hel⟩:=DP (w:=w) hop ht hi hzv hl c1 c2 c3 h1.bH h0 hroom hpl
  have hls:(l.map ae.shut).length=i.size:=by simpa using c1
  rw [hls]
  obtain ⟨q,hb,dH⟩:=iH (w:=w) (.cells row e (0,0))
  have hob:∀b,some w.heap.size=some b->w.heap.size<=b/\b<({ w with heap:=w.heap.push (.cells row e (0,0)) }:World).heap.size:=fun b h=>by injection h with h; subst h; simp
  have ext:Ext j M w (bX j M.length (some w.heap.size)) (M++[.arr i.size 0 (List.replicate k.toNat (ae.agg (l.map ae.shut)).norm)]) { w with heap:=w.heap.push (.cells row e (0,0)) }:=Ext.push (fun b hb=>(hob b hb).1) q hb
  refine ⟨_,{ w with heap:=w.heap.push (.cells row e (0,0)) },.inl hrun,bX j M.length (some w.heap.size),hr.push hob q hb (fun h=>by cases h) (fun sz n b h _=>by cases h) (fun sz0 v0 xs0 he=>?_),ext,?_⟩
  ·injection he with e1 e2 e3
   subst e1; subst e2; subst e3
   refine .inr ⟨w.heap.size,row,e,rfl,dH,by simp [hsz],fun x hx=>?_,fun j' M' hx q0 x p c hq hp=>hel (fJ j' M' { w with heap:=w.heap.push (.cells row e (0,0)) }) { w with heap:=w.heap.push (.cells row e (0,0)) } q0 x p c hq hp⟩
   obtain ⟨_,rfl⟩:=List.mem_replicate.1 hx
   rw [kU (by omega) hpl,hls]
  ·refine .aZ (.inl ⟨_,_,_,by rw [Nat.sub_zero],by omega⟩) (by simp) (fun bx hbx=>by rw [fZ] at hbx; injection hbx with hbx; subst hbx; rfl) fun sz' v' ys hx=>?_
   rw [fZ] at hx; injection hx with hx; injection hx with e1 e2 e3
   subst e1; subst e2; subst e3
   exact ⟨Nat.le_refl _,fun _=>⟨rfl,Nat.zero_le _,by simp,.inr ⟨w.heap.size,k.toNat,row,e,by simp [bX],by simp,by omega,dH,by rw [Nat.zero_add]; omega⟩⟩⟩
 ·cases h
end
section
variable {j:J} {M:ag} {w w':World}
def Ext.lN {k b' sz ver ver':Nat} {xs xs':List ae} (hM:M[k]?=some (.arr sz ver xs)) (q:Quiet w w') (hb:∀b,b<w.heap.size->w'.heap[b]?=w.heap[b]?) (hf:w.heap.size<=b') (hn:ver<ver') :
  Ext j M w (bX j k (some b')) (M.set k (.arr sz ver' xs')) w' where
 len:=by simp
 size:=q.size
 os:=q.os
 tape:=q.tape
 output:=q.output
 X:=rfl
 fix:=fun i b0 h hf=>by
  have e:k≠i:=by rintro rfl; rw [hM] at h; injection h with h; subst h; cases hf
  exact ⟨by simp [bX,Ne.symm e],b0,by rw [aH e]; exact h,rfl⟩
 tick:=fun i sz0 n0 h=>by
  have e:k≠i:=by rintro rfl; rw [hM] at h; cases h
  exact ⟨n0,Nat.le_refl _,by rw [aH e]; exact h,fun _=>⟨by simp [bX,Ne.symm e],fun b vs0 t0 _ hv=>⟨vs0,(hb b (lt_of_block hv)).trans hv,rfl⟩⟩⟩
 arr:=fun i sz0 v0 xs0 h=>by
  by_cases e:k=i
  ·subst e
   rw [hM] at h
   injection h with h; injection h with h1 h2 h3
   subst h1; subst h2; subst h3
   exact .inr ⟨ver',xs',aU (aj hM),by omega,fun he=>by omega⟩
  ·exact .inr ⟨v0,xs0,by rw [aH e]; exact h,Nat.le_refl _,fun _=>⟨by simp [bX,Ne.symm e],rfl,fun b vs0 t0 _ hv=>⟨vs0,(hb b (lt_of_block hv)).trans hv,rfl⟩⟩⟩
 tags:=fun b0 vs0 t0 fr0 h=>⟨vs0,fr0,(hb b0 (lt_of_block h)).trans h,rfl⟩
 cu:=fun b0 off h=>by
  refine ⟨⟨Nat.lt_of_lt_of_le h.1 q.size,fun i hi hji=>?_,h.3⟩,World.cell?_of_block (w:=w) (hb b0 h.1)⟩
  have e:k≠i:=by
   rintro rfl
   have:b'=b0:=by simpa [bX] using hji
   have:=h.1
   omega
  rw [aH e]
  exact h.2 i (by simpa using hi) (by simpa [bX,Ne.symm e] using hji)
 mP:=fun b0 hlt h=>by
  refine ⟨hb b0 hlt,fun i hi hji=>?_⟩
  by_cases e:i=k
  ·have:b'=b0:=by simpa [bX,e] using hji
   omega
  ·exact h i (by simpa using hi) (by simpa [bX,e] using hji)
def Rel.lN {k b' sz ver ver':Nat} {xs xs':List ae} (hM:M[k]?=some (.arr sz ver xs)) (hr:Rel j M w) (q:Quiet w w') (hb:∀b,b<w.heap.size->w'.heap[b]?=w.heap[b]?)
  (hf:w.heap.size<=b') (hlt:b'<w'.heap.size) (hn:ver<ver') (hh:∀j' M',Ext j M w j' M' w'->yY j' M' w' b' sz xs'):Rel (bX j k (some b')) (M.set k (.arr sz ver' xs')) w':=by
 have ext:Ext j M w (bX j k (some b')) (M.set k (.arr sz ver' xs')) w':=Ext.lN hM q hb hf hn
 refine ⟨fun i i' b0 hi hi' h h'=>?_,fun i b0 hi h=>?_,fun i bx0 h hf=>?_,fun i sz0 n0 b0 h hji=>?_,fun i sz0 v0 xs0 h=>?_,fun i b0 hi h off hx=>?_,fun b0 off h=>Nat.lt_of_lt_of_le (hr.qo b0 off h) q.size⟩
 ·simp only [List.length_set] at hi hi'
  by_cases e:i=k<;>by_cases e':i'=k
  ·omega
  ·have h1:b'=b0:=by simpa [bX,e] using h
   have:=hr.lt i' b0 hi' (by simpa [bX,e'] using h')
   omega
  ·have h1:b'=b0:=by simpa [bX,e'] using h'
   have:=hr.lt i b0 hi (by simpa [bX,e] using h)
   omega
  ·exact hr.inj i i' b0 hi hi' (by simpa [bX,e] using h) (by simpa [bX,e'] using h')
 ·simp only [List.length_set] at hi
  by_cases e:i=k
  ·have h1:b'=b0:=by simpa [bX,e] using h
   subst h1
   exact hlt
  ·exact Nat.lt_of_lt_of_le (hr.lt i b0 hi (by simpa [bX,e] using h)) q.size
 ·have e:k≠i:=by rintro rfl; rw [aU (aj hM)] at h; injection h with h; subst h; cases hf
  rw [aH e] at h
  obtain ⟨b0,h1,h2⟩:=hr.fix i bx0 h hf
  exact ⟨b0,by simpa [bX,Ne.symm e] using h1,h2.mono ext (hb b0 (hr.lt i b0 (aj h) h1))⟩
 ·have e:k≠i:=by rintro rfl; rw [aU (aj hM)] at h; cases h
  rw [aH e] at h
  obtain ⟨vs0,t0,h1⟩:=hr.tick i sz0 n0 b0 h (by simpa [bX,Ne.symm e] using hji)
  exact ⟨vs0,t0,(hb b0 (lt_of_block h1)).trans h1⟩
 ·by_cases e:k=i
  ·subst e
   rw [aU (aj hM)] at h
   injection h with h; injection h with e1 e2 e3
   subst e1; subst e2; subst e3
   obtain ⟨vs,t,g⟩:=hh _ _ ext
   exact .inr ⟨b',vs,t,by simp [bX],g⟩
  ·rw [aH e] at h
   exact ia hr ext h (by simp [bX,Ne.symm e]) fun b0 h1=>hb b0 (hr.lt i b0 (aj h) h1)
 ·by_cases e:i=k
  ·have h1:b'=b0:=by simpa [bX,e] using h
   have h2:=hr.qo b0 off hx
   omega
  ·exact hr.lY i b0 (by simpa using hi) (by simpa [bX,e] using h) off hx
def gz {cu:Nat->Nat->Prop} {xs:List ae} {v:Value} {size:Nat} (hx:bF w cu (.slice .sh xs) v) (hw:wid xs size):∃A cap,v = .slice A xs.length cap/\xs.length<=cap /\
  (xs=[]\/∃b off,A=some ⟨b,off,none⟩/\∃us:List Value,RL w cu (dD xs) us/\us.length=xs.length*size/\(∀u,u∈us->u.oneCell'=true)/\∀p u,us[p]?=some u->w.cell? ⟨b,off+p,none⟩=some u/\cu b (off+p)):=by
 cases hx with
 |slice _ A len cap b off sz vs hl hc ha hz hs hr =>
  subst hl
  refine ⟨A,cap,rfl,hc,?_⟩
  rcases List.eq_nil_or_concat xs with h0|⟨_,_,h0⟩
  ·exact .inl h0
  ·have hne:xs≠[]:=by rw [h0]; simp
   have hsz:sz=size:=by
    obtain ⟨x,r,hxr⟩:=List.exists_cons_of_ne_nil hne
    have hm:x∈xs:=by rw [hxr]; exact List.mem_cons_self ..
    rw [<-hz x hm,hw x hm]
   subst hsz
   have hlen:((List.range (xs.length*sz)).map vs).length=xs.length*sz:=by simp
   have hrl:RL w cu (dD xs) ((List.range (xs.length*sz)).map vs):=by
    refine ⟨by rw [cK hw,hlen],fun p c v hc hv=>?_⟩
    obtain ⟨q,x,k,h1,h2,rfl⟩:=va hw hc
    have hlt:q*sz+k<xs.length*sz:=by rw [<-cK hw]; exact aj hc
    rw [List.getElem?_map,List.getElem?_range hlt] at hv
    simp only [Option.map_some] at hv
    injection hv with hv; subst hv
    exact hr q x k c h1 h2
   refine .inr ⟨b,off,ha hne,_,hrl,hlen,fun u hu=>?_,fun p u hu=>?_⟩
   ·obtain ⟨p,hp⟩:=List.getElem?_of_mem hu
    have hp':p<(dD xs).length:=by rw [hrl.1]; exact aj hp
    exact bF.one (hrl.2 p _ u (List.getElem?_eq_getElem hp') hp)
   ·have hp':p<(dD xs).length:=by rw [hrl.1]; exact aj hu
    obtain ⟨q,x,k,h1,h2,rfl⟩:=va hw (List.getElem?_eq_getElem hp')
    have hlt:q*sz+k<xs.length*sz:=by rw [<-cK hw]; exact hp'
    rw [List.getElem?_map,List.getElem?_range hlt] at hu
    simp only [Option.map_some] at hu
    injection hu with hu; subst hu
    exact hs q x k _ h1 h2
end
section
variable {P:Program} {C:bt} {o:Oper} {env:Env} {M:ag} {j:J} {w:World} {a:Act} {x:ae×ag}
def Fy {l:List ae} (hp:0<l.length) (h1:l.all ae.plainCell=true) (n:Nat):dD (List.replicate n (ae.agg l).norm)=(List.replicate n l).flatten/\wid (List.replicate n (ae.agg l).norm) l.length:=by
 refine ⟨?_,fun x hx=>by rw [List.eq_of_mem_replicate hx,kU hp h1]⟩
 induction n with
 |zero=>rfl
 |succ n ih=>rw [List.replicate_succ,gi,ih,List.replicate_succ,List.flatten_cons,kU hp h1]
def Db (hr:Rel j M w) {id sz ver:Nat} {xs ys:List ae} (hM:M[id]?=some (.arr sz ver xs)) {b cap:Nat} {row:Array Value} {t:TypeId} (hj:j id=some b) (hw:w.heap[b]?=some (.cells row t (0,0))) (hcap:xs.length<=cap) (hrow:cap*sz<=row.size)
  (hwd:wid xs sz) (hwy:wid ys sz) (hne:ys≠[]) {us:List Value} (hrl:RL w (fJ j M w) (dD ys) us) {v:Value} {w':World}
  (hq:(xs.length+ys.length<=cap/\v = .slice (some ⟨b,0,none⟩) (xs.length+ys.length) cap/\w'=gF w b (xs.length*sz) us) \/
   ∃c' row' e,xs.length+ys.length<=c'/\v = .slice (some ⟨w.heap.size,0,none⟩) (xs.length+ys.length) c'/\Quiet w w'/\(∀b,b<w.heap.size->w'.heap[b]?=w.heap[b]?)/\w'.heap[w.heap.size]?=some (.cells row' e (0,0))/\c'*sz<=row'.size /\
    ∀p,p<(xs.length+ys.length)*sz->row'[p]?=(row.toList.take (xs.length*sz)++us)[p]?) :
  cG j M w (.aZ id (ver+1) sz 0 (xs.length+ys.length),M.set id (.arr sz (ver+1) (xs++ys))) v w':=by
 obtain ⟨b',row0,t',k1,k2,k3,k4,k5⟩:=hr.qw hM hj
 rw [hj] at k1; injection k1 with k1; subst k1
 rw [hw] at k2; injection k2 with k2; injection k2 with k2 k2'
 subst k2; subst k2'
 have hrow0:=oS (b:=b) k3 k4 k5
 have hid:=aj hM
 have hwd2:=fH hwd hwy
 have dH:RL w (fJ j M w) (dD (xs++ys)) (row.toList.take (xs.length*sz)++us):=by
  rw [gh]; exact hrow0.append hrl
 have hlen:(xs++ys).length=xs.length+ys.length:=by simp
 have hpl:(row.toList.take (xs.length*sz)++us).length=(xs.length+ys.length)*sz:=by rw [<-dH.1,cK hwd2,hlen]
 have htk:(row.toList.take (xs.length*sz)).length=xs.length*sz:=by simp; omega
 have hul:us.length=ys.length*sz:=by rw [<-hrl.1,cK hwy]
 have hpos:0<ys.length:=List.length_pos_iff.2 hne
 rcases hq with ⟨h1,rfl,rfl⟩|⟨c',row',e,h1,rfl,q,hb,hn,hs,hp⟩
 ·have hfit:xs.length*sz+us.length<=row.size:=by
   rw [hul,<-Nat.add_mul]; exact Nat.le_trans (Nat.mul_le_mul_right _ h1) hrow
  obtain ⟨s1,s2,s3,s4,s5,row2,s6,s7,s8,s9⟩:=eT (t:=t) us w (xs.length*sz) row hw hfit
  have hput:=oQ (ver':=ver+1) (xs':=xs++ys) hr hM hj ⟨by omega,s2,s3,s4⟩ (fun b' hb' _=>s5 b' hb') hw s6 s7 (by omega) (fun h=>by omega) hwd2 dH (fun p hp=>by
   rw [hpl] at hp
   rcases Nat.lt_or_ge p (xs.length*sz) with c1|c1
   ·rw [s8 p (.inl c1),List.getElem?_append_left (by omega),List.getElem?_take_of_lt c1]; simp
   ·rw [List.getElem?_append_right (by omega),htk]
    have:=s9 (p-xs.length*sz) (by rw [hul]; rw [Nat.add_mul] at hp; omega)
    rwa [Nat.add_sub_cancel' c1] at this)
  refine ⟨j,hput.1,hput.2,.aZ (.inl ⟨b,0,cap,by rw [Nat.sub_zero],by omega⟩) (by simpa using hid) (fun bx hbx=>by rw [aU hid] at hbx; injection hbx with hbx; subst hbx; rfl) fun sz' v' zs hx=>?_⟩
  rw [aU hid] at hx; injection hx with hx; injection hx with e1 e2 e3
  subst e1; subst e2; subst e3
  exact ⟨Nat.le_refl _,fun _=>⟨rfl,Nat.zero_le _,by omega,.inr ⟨b,cap,row2,t,hj,by simp,by omega,s6,by rw [Nat.zero_add,s7]; exact hrow⟩⟩⟩
 ·have hat:∀p,p<(row.toList.take (xs.length*sz)++us).length->row'[p]?=(row.toList.take (xs.length*sz)++us)[p]?:=fun p h=>hp p (by rw [<-hpl]; exact h)
  have hrel:=Rel.lN (ver':=ver+1) (xs':=xs++ys) hM hr q hb (Nat.le_refl _) (lt_of_block hn) (by omega) (fun j' M' hx=>fE hn hwd2 (dH.mono hx.cu) hat)
  have hext:=Ext.lN (j:=j) (ver':=ver+1) (xs':=xs++ys) hM q hb (Nat.le_refl _) (by omega)
  refine ⟨_,hrel,hext,.aZ (.inl ⟨w.heap.size,0,c',by rw [Nat.sub_zero],by omega⟩) (by simpa using hid) (fun bx hbx=>by rw [aU hid] at hbx; injection hbx with hbx; subst hbx; rfl) fun sz' v' zs hx=>?_⟩
  rw [aU hid] at hx; injection hx with hx; injection hx with e1 e2 e3
  subst e1; subst e2; subst e3
  exact ⟨Nat.le_refl _,fun _=>⟨rfl,Nat.zero_le _,by omega,.inr ⟨w.heap.size,c',row',e,by simp [bX],by simp,by omega,hn,by rw [Nat.zero_add]; exact hs⟩⟩⟩
def CL (hr:Rel j M w) (he:aL j M w env a) {c:Call} {y y':Operand} {z z':cj} {t t' e:TypeId} {kn:IntKind} {i:TypeInfo} {zv:Value} {l:List ae} (hop:o.op = .call c) (hb:c.callee = .builtin .append) (ha:c.args.toList=[y,y'])
  (hat:c.argTypes.toList=[t,t']) (hs:P.underlying t=some (.slice e)) (hs':P.underlying t'=some (.int kn)) (hi:P.info? e=some i) (hzv:i.zero=some zv) (hl:jL zv.cells.toList=some l) (c1:l.length=i.size) (c2:0<i.size) (c3:0<i.bytes) (c4:i.bytes<=2 ^ 20)
  (hz:bo y=some z) (hz':bo y'=some z') (h:bd C env M (.oO i.size i.bytes (l.map ae.shut) z z')=some x):∃v w',im P o a w v w'/\cG j M w x v w':=by
 simp only [bd] at h
 have r1:=aN he hz
 have r2:=aN he hz'
 have ha':c.args = #[y,y']:=by rw [<-ha]
 have hat':c.argTypes = #[t,t']:=by rw [<-hat]
 have hexec:∀r,(Builtin.append_ #[t,t'] o.type #[a.eval y,a.eval y']).run P w=r->(execOp a.eval o).run P w=r.andThen fun v w' => .ok (.value v) w':=by
  intro r hr'
  simp [execOp,hop,resolve,hb,invoke,builtin,ha',hat',hr']
 have hsz:(sizeOf e).run P w = .ok i.size w:=cY (by simp [hZ,hi])
 obtain ⟨z1,z2⟩:=gJ (j:=j) (M:=M) (w:=w) hl
 have hzs:zv.cells.size=i.size:=by simp at z1; omega
 have happ:∀(A:Option Addr) (n c:Nat) (kz:IntKind) (m:Nat),(Builtin.append_ #[t,t'] o.type #[.slice A n c,.int kz (m:Int)]).run P w=(Builtin.append_ #[t,t'] o.type #[.slice A n c,.int kn (m:Int)]).run P w:=fun A n c kz m=>by
  simp [Builtin.append_,bf hs,bf hs',asInt,asIntOf]
 -- what is appended
 have zrow:∀(k:Nat),(l.map ae.shut).all ae.plainCell=true->RL w (fJ j M w) (dD (List.replicate k (ae.agg (l.map ae.shut)).norm)) (Builtin.zeroCells zv.cells k).toList/\wid (List.replicate k (ae.agg (l.map ae.shut)).norm) i.size/\∀v,v∈(Builtin.zeroCells zv.cells k).toList->v.oneCell'=true:=by
  intro k hpl
  obtain ⟨p1,p2⟩:=uD (j:=j) (M:=M) (w:=w) hl hpl
  obtain ⟨q1,q2⟩:=Fy (l:=l.map ae.shut) (by simp; omega) hpl k
  rw [List.length_map,c1] at q2
  refine ⟨by rw [q1,gR]; exact Gx _ p1,q2,fun v hv=>?_⟩
  rw [gR] at hv
  obtain ⟨r,hr1,hr2⟩:=List.mem_flatten.1 hv
  rw [List.eq_of_mem_replicate hr1] at hr2
  exact p2 v hr2
 -- nothing is appended
 have nil:∀(base:Option Addr) (n cap:Nat),n<=cap->(Builtin.append_ #[t,t'] o.type #[.slice base n cap,.int kn 0]).run P w = .ok (.slice base n cap) w:=by
  intro base n cap hle
  have hw0:IntKind.i64.wrap 0=0:=by decide
  cases base<;>simp [Builtin.append_,bf hs,bf hs',hsz,asInt,asIntOf,hw0,typeInfo,hi,hle,storeCells]
 have grow:∀(base:Option Addr) (n cap:Nat) (olds:List Value) (k:Nat),(∀w':World,w'.heap=w.heap->(Builtin.firstCells i.size n (.slice base n cap)).run P w' = .ok olds.toArray w')->0<k->cap<n+k->(n+k)*i.bytes<=2 ^ 44 ->
   ∃newCap row' w',n+k<=newCap/\(Builtin.append_ #[t,t'] o.type #[.slice base n cap,.int kn k]).run P w = .ok (.slice (some ⟨w.heap.size,0,none⟩) (n+k) newCap) w'/\Quiet w w'/\(∀b,b<w.heap.size->w'.heap[b]?=w.heap[b]?)/\w'.heap[w.heap.size]?=some (.cells row' e (0,0)) /\
    row'.size=olds.length+k*i.size+(newCap-(n+k))*i.size/\∀p,p<olds.length+k*i.size->row'[p]?=(olds++(Builtin.zeroCells zv.cells k).toList)[p]?:=by
  intro base n cap olds k hold hk hlt hroom
  have hcapb:Builtin.nextslicecap (n+k) cap*i.bytes<=281474976710656:=by
   have h1:=vC hlt
   have h2:Builtin.nextslicecap (n+k) cap*i.bytes<=(2*(n+k)+1000)*i.bytes:=Nat.mul_le_mul_right _ h1
   have h3:(2*(n+k)+1000)*i.bytes=2*((n+k)*i.bytes)+1000*i.bytes:=by
    rw [Nat.add_mul,Nat.mul_assoc]
   have h4:1000*i.bytes<=1000*2 ^ 20:=Nat.mul_le_mul_left _ c4
   omega
  have h44:n+k<=2 ^ 44:=Nat.le_trans (Nat.le_mul_of_pos_right _ c3) hroom
  have hkb:k*i.bytes<=281474976710656:=by
   have:=Nat.mul_le_mul_right i.bytes (show k<=n+k by omega)
   omega
  have hrun:=Lib.run_append_grow_zeros (P:=P) w t t' o.type e i zv kn kn hs hs' hi hzv base n cap olds (hold w.drew rfl) k hk c2 hlt (by omega) hkb hcapb
  have hge:n+k<=grownCap w (n+k) cap e:=grownCap_ge w (n+k) cap e
  have hzl:∀m,(Builtin.zeroCells zv.cells m).size=m*i.size:=fun m=>by simp [Builtin.zeroCells,hzs]
  obtain ⟨q,hbk,dH⟩:=iH (w:=w) (.cells (olds.toArray++Builtin.zeroCells zv.cells k++Builtin.zeroCells zv.cells (grownCap w (n+k) cap e-(n+k))) e (0,0))
  refine ⟨_,_,_,hge,hrun,⟨q.size,rfl,rfl,rfl⟩,hbk,dH,by simp only [Array.size_append,hzl,List.size_toArray],fun p hp=>?_⟩
  rw [Array.getElem?_append_left (by simp only [Array.size_append,hzl,List.size_toArray]; exact hp)]
  simp [<-Array.getElem?_toList]
 have hkk:∀ {k:Int} {kz:IntKind},a.eval y' = .int kz k->0<=k->∃m:Nat,k=m:=fun {k} _ _ h=>⟨k.toNat,by omega⟩
 split at h
 ·rename_i kz k ex ek
  rw [ex] at r1; rw [ek] at r2
  obtain ⟨⟨h0,hroom,hsl,hpl⟩,h⟩:=aP h
  obtain ⟨A,hv⟩:=r1.uO
  obtain ⟨m,rfl⟩:∃m:Nat,k=m:=⟨k.toNat,by omega⟩
  have hk2:=r2.bH
  rcases dw h with ⟨hb0,h⟩|⟨hb0,h⟩
  ·injection h with h; subst h
   have hm0:m=0:=by simpa using hb0
   subst hm0
   refine ⟨a.eval y,w,.inl ?_,.still hr ?_⟩
   ·rw [hexec _ rfl,hv,hk2,happ,Int.natCast_zero,nil A 0 0 (Nat.le_refl _)]; rfl
   ·rw [hv]; exact .c0 _
  ·injection h with h; subst h
   have hm0:0<m:=by
    rcases Nat.eq_zero_or_pos m with h|h
    ·subst h; simp at hb0
    ·exact h
   unfold bB at hroom
   simp only [Int.toNat_natCast] at hroom ⊢
   obtain ⟨newCap,row',w',g1,g2,q,g3,g4,g5,g6⟩:=grow A 0 0 [] m (fun w' _=>by cases A<;>simp [Builtin.firstCells,loadCells,loadCellsFrom]) hm0 (by omega) (by simpa using hroom)
   obtain ⟨p1,p2,p3⟩:=zrow m hpl
   have hob:∀b,some w.heap.size=some b->w.heap.size<=b/\b<w'.heap.size:=fun b h=>by injection h with h; subst h; exact ⟨Nat.le_refl _,lt_of_block g4⟩
   have ext:Ext j M w (bX j M.length (some w.heap.size)) (M++[.arr i.size 0 (List.replicate m (ae.agg (l.map ae.shut)).norm)]) w':=Ext.push (fun b h=>(hob b h).1) q g3
   have hat:∀j' M',Ext j M w j' M' w'->yY j' M' w' w.heap.size i.size (List.replicate m (ae.agg (l.map ae.shut)).norm):=fun j' M' hx=>fE g4 p2 (p1.mono hx.cu) fun p hp=>by
    have hp':p<m*i.size:=by rw [<-p1.1,cK p2] at hp; simpa using hp
    rw [g6 p (by simpa using hp')]; simp
   refine ⟨.slice (some ⟨w.heap.size,0,none⟩) m newCap,w',.inl ?_,bX j M.length (some w.heap.size),hr.push hob q g3 (fun h=>by cases h) (fun sz n b h _=>by cases h) (fun sz0 v0 xs0 he=>?_),ext,?_⟩
   ·rw [hexec _ rfl,hv,hk2,happ,g2]; simp [Result.andThen]
   ·injection he with e1 e2 e3
    subst e1; subst e2; subst e3
    refine .inr ⟨w.heap.size,row',e,rfl,g4,by rw [g5]; simp,p2,fun j' M' hx q x k c hx' hk=>?_⟩
    obtain ⟨vs,t,a1,a2,a3,a4⟩:=hat j' M' hx
    rw [g4] at a1; injection a1 with a1; injection a1 with a1 a1'
    subst a1
    exact a4 q x k c hx' hk
   ·refine .aZ (.inl ⟨w.heap.size,0,newCap,by rw [Nat.sub_zero],by omega⟩) (by simp) (fun bx hbx=>by rw [fZ] at hbx; injection hbx with hbx; subst hbx; rfl) fun sz' v' xs hx=>?_
    rw [fZ] at hx; injection hx with hx; injection hx with e1 e2 e3
    subst e1; subst e2; subst e3
    refine ⟨Nat.le_refl _,fun _=>⟨rfl,Nat.zero_le _,by simp,.inr ⟨w.heap.size,newCap,row',e,by simp [bX],by simp,by omega,g4,?_⟩⟩⟩
    rw [g5,Nat.zero_add]
    simp only [List.length_nil,Nat.zero_add]
    rw [<-Nat.add_mul,Nat.add_sub_cancel' (by omega)]
    exact Nat.le_refl _
 ·rename_i id ver sz' lo hi0 kz k ex ek
  rw [ex] at r1; rw [ek] at r2
  rw [bE] at h
  split at h
  ·rename_i sz0 v0 xs hM
   obtain ⟨⟨d1,d2,d3,d4,h0,hroom,hsl,hpl,hne0⟩,h⟩:=aP h
   subst d1; subst d2; subst d3; subst d4
   obtain ⟨_,hid,_,g⟩:=r1.gm
   obtain ⟨e1,_,_,⟨hx,_⟩|⟨b,cap,row,t0,l3,l4,l5,l6,l7⟩⟩:=(g sz0 v0 xs hM).2 rfl
   ·exact absurd hne0 (by rw [hx]; simp)
   subst e1
   rw [Nat.sub_zero] at l4 l5
   rw [Nat.zero_mul] at l4
   rw [Nat.zero_add] at l7
   obtain ⟨m,rfl⟩:∃m:Nat,k=m:=⟨k.toNat,by omega⟩
   have hk2:=r2.bH
   rcases dw h with ⟨hb0,h⟩|⟨hb0,h⟩
   ·injection h with h; subst h
    have hm0:m=0:=by simpa using hb0
    subst hm0
    refine ⟨a.eval y,w,.inl ?_,.still hr r1⟩
    rw [hexec _ rfl,hk2,l4,happ,Int.natCast_zero,nil _ _ _ l5]; rfl
   ·injection h with h; subst h
    have hm0:0<m:=by
     rcases Nat.eq_zero_or_pos m with h|h
     ·subst h; simp at hb0
     ·exact h
    unfold bB at hroom
    simp only [Int.toNat_natCast] at hroom ⊢
    obtain ⟨b',row0,t',k1,k2,k3,k4,k5⟩:=hr.qw hM l3
    rw [l3] at k1; injection k1 with k1; subst k1
    rw [l6] at k2; injection k2 with k2; injection k2 with k2 k2'
    subst k2; subst k2'
    obtain ⟨p1,p2,p3⟩:=zrow m hpl
    have hlr:(List.replicate m (ae.agg (l.map ae.shut)).norm).length=m:=by simp
    have hne:List.replicate m (ae.agg (l.map ae.shut)).norm≠[]:=by intro h; rw [h] at hlr; simp at hlr; omega
    have key:=fun v w' hq=>Db (v:=v) (w':=w') hr hM l3 l6 l5 l7 k4 p2 hne p1 hq
    rw [hlr] at key
    rw [cd]
    rcases Nat.lt_or_ge cap (xs.length+m) with hlt|hge
    ·have hfc:∀w':World,w'.heap=w.heap->(Builtin.firstCells i.size xs.length (.slice (some ⟨b,0,none⟩) xs.length cap)).run P w' = .ok (row.toList.take (xs.length*i.size)).toArray w':=fun w' hw'=>by
      have:=ij (P:=P) (w:=w') b 0 (xs.length*i.size) (fun p=>(row[p]?).getD undef) fun p hp=>by
       simp only [World.cell?,hw',l6,Nat.zero_add]
       rw [Array.getElem?_eq_getElem (show p<row.size by omega)]; rfl
      simp only [Builtin.firstCells]
      rw [this]
      congr 2
      apply List.ext_getElem?
      intro p
      rw [List.getElem?_map,List.getElem?_take]
      rcases Nat.lt_or_ge p (xs.length*i.size) with h|h
      ·rw [List.getElem?_range h,if_pos h]
       simp [Array.getElem?_eq_getElem (show p<row.size by omega)]
      ·rw [if_neg (by omega),List.getElem?_eq_none (by simpa using h)]; rfl
     obtain ⟨newCap,row',w',g1,g2,q,g3,g4,g5,g6⟩:=grow (some ⟨b,0,none⟩) xs.length cap _ m hfc hm0 hlt hroom
     have htk:(row.toList.take (xs.length*i.size)).length=xs.length*i.size:=by simp; omega
     refine ⟨_,w',.inl ?_,key _ w' (.inr ⟨newCap,row',e,g1,rfl,q,g3,g4,?_,fun p hp=>g6 p (by rw [htk,<-Nat.add_mul]; exact hp)⟩)⟩
     ·rw [hexec _ rfl,hk2,l4,happ,g2]; rfl
     ·rw [g5,htk,<-Nat.add_mul,<-Nat.add_mul,Nat.add_sub_cancel' g1]
      exact Nat.le_refl _
    ·have hfit:xs.length*i.size+(Builtin.zeroCells zv.cells m).toList.length<=row.size:=by
      rw [<-p1.1,cK p2,hlr,<-Nat.add_mul]; exact Nat.le_trans (Nat.mul_le_mul_right _ hge) l7
     have hst:=fG (P:=P) (Builtin.zeroCells zv.cells m).toList w (xs.length*i.size) 0 row l6 (by omega) p3
     refine ⟨_,_,.inl ?_,key _ _ (.inl ⟨hge,rfl,rfl⟩)⟩
     have hwm:IntKind.i64.wrap (m:Int)=m:=by
      have:m*i.bytes<=2 ^ 44:=Nat.le_trans (Nat.mul_le_mul_right _ (by omega)) hroom
      have:m<=2 ^ 44:=Nat.le_trans (Nat.le_mul_of_pos_right _ c3) this
      rw [IntKind.wrap_i64]; omega
     have hneg:¬((m:Int)<0):=by omega
     have hns:¬(m*i.size=0):=Nat.mul_ne_zero (by omega) (by omega)
     have h48:¬(281474976710656<(m:Int)*(i.bytes:Int)):=by
      have:m*i.bytes<=2 ^ 44:=Nat.le_trans (Nat.mul_le_mul_right _ (by omega)) hroom
      rw [<-Int.natCast_mul]; omega
     rw [hexec _ rfl,hk2,l4,happ]
     have hadd:(⟨b,0,none⟩:Addr).add (xs.length*i.size)=⟨b,xs.length*i.size,none⟩:=by simp [eV]
     simp only [Nat.add_zero] at hst
     have hap:(Builtin.append_ #[t,t'] o.type #[.slice (some ⟨b,0,none⟩) xs.length cap,.int kn (m:Int)]).run P w = .ok (.slice (some ⟨b,0,none⟩) (xs.length+m) cap) (gF w b (xs.length*i.size) (Builtin.zeroCells zv.cells m).toList):=by
      simp [Builtin.append_,bf hs,bf hs',hsz,asInt,asIntOf,hwm,typeInfo,hi,hneg,h48,hns,zeroValue,hzv,hge,hadd,hst]
     rw [hap]; rfl
  ·cases h
 ·cases h
def GC (hr:Rel j M w) {id sz ver:Nat} {ys:List ae} (hM:M[id]?=some (.arr sz ver [])) (hwy:wid ys sz) {us:List Value} (hrl:RL w (fJ j M w) (dD ys) us) {v:Value} {w':World} {c':Nat} {row':Array Value} {e:TypeId}
  (h1:ys.length<=c') (hv:v = .slice (some ⟨w.heap.size,0,none⟩) ys.length c') (q:Quiet w w') (hb:∀b,b<w.heap.size->w'.heap[b]?=w.heap[b]?) (hn:w'.heap[w.heap.size]?=some (.cells row' e (0,0))) (hs:c'*sz<=row'.size) (hp:∀p,p<us.length->row'[p]?=us[p]?) :
  cG j M w (.aZ id (ver+1) sz 0 ys.length,M.set id (.arr sz (ver+1) ys)) v w':=by
 subst hv
 have hid:=aj hM
 have hrel:=Rel.lN (ver':=ver+1) (xs':=ys) hM hr q hb (Nat.le_refl _) (lt_of_block hn) (by omega) (fun j' M' hx=>fE hn hwy (hrl.mono hx.cu) hp)
 have hext:=Ext.lN (j:=j) (ver':=ver+1) (xs':=ys) hM q hb (Nat.le_refl _) (by omega)
 refine ⟨_,hrel,hext,.aZ (.inl ⟨w.heap.size,0,c',by rw [Nat.sub_zero],by omega⟩) (by simpa using hid) (fun bx hbx=>by rw [aU hid] at hbx; injection hbx with hbx; subst hbx; rfl) fun sz' v' zs hx=>?_⟩
 rw [aU hid] at hx; injection hx with hx; injection hx with e1 e2 e3
 subst e1; subst e2; subst e3
 exact ⟨Nat.le_refl _,fun _=>⟨rfl,Nat.zero_le _,Nat.le_refl _,.inr ⟨w.heap.size,c',row',e,by simp [bX],by simp,by omega,hn,by rw [Nat.zero_add]; exact hs⟩⟩⟩
def FA (hr:Rel j M w) (he:aL j M w env a) {c:Call} {y y':Operand} {z z':cj} {t t' e e':TypeId} {i:TypeInfo} {zv:Value} (hop:o.op = .call c) (hb:c.callee = .builtin .append) (ha:c.args.toList=[y,y'])
  (hat:c.argTypes = #[t,t']) (hs:P.underlying t=some (.slice e)) (hs':P.underlying t'=some (.slice e')) (hi:P.info? e=some i) (hz:i.zero=some zv) (hzs:zv.cells.size=i.size) (hpos:0<i.size) (hb0:0<i.bytes) (hb1:i.bytes<=2 ^ 20)
  (hzy:bo y=some z) (hzy':bo y'=some z') (h:bd C env M (.append i.size i.bytes z z')=some x):∃v w',im P o a w v w'/\cG j M w x v w':=by
 by_cases hna:∀id ver sz lo hi,z.ev env ≠ .aZ id ver sz lo hi
 ·exact CJ hr he hop hb ha hat hs hs' hi hz hzs hpos hb0 hb1 hzy hzy' h hna
 ·have hna':∃id ver sz lo hi,z.ev env = .aZ id ver sz lo hi:=by
   apply Classical.byContradiction
   intro hno
   exact hna fun id ver sz lo hi he=>hno ⟨id,ver,sz,lo,hi,he⟩
  obtain ⟨id,ver,sz',lo,hi0,ez⟩:=hna'
  have r1:=aN he hzy
  have r2:=aN he hzy'
  simp only [bd] at h
  split at h
  ·rename_i ez' _
   rw [ez] at ez'; cases ez'
  ·rename_i id' ver' szz lo' hi' tk ys ez1 ez2
   rw [ez] at ez1; injection ez1 with q1 q2 q3 q4 q5
   subst q1; subst q2; subst q3; subst q4; subst q5
   rw [ez] at r1; rw [ez2] at r2
   rw [bE] at h
   split at h
   ·rename_i sz0 v0 xs hM
    obtain ⟨⟨d1,d2,d3,d4,hroom,hwx,hwy,hyl⟩,h⟩:=aP h
    have hne:ys≠[]:=List.ne_nil_of_length_pos hyl
    injection h with h
    subst h; subst d1; subst d2; subst d3; subst d4
    rw [cd]
    have ha':c.args = #[y,y']:=by rw [<-ha]
    have hexec:∀r,(Builtin.append_ #[t,t'] o.type #[a.eval y,a.eval y']).run P w=r->(execOp a.eval o).run P w=r.andThen fun v w' => .ok (.value v) w':=by
     intro r hr'
     simp [execOp,hop,resolve,hb,invoke,builtin,ha',hat,hr']
    obtain ⟨B,cap2,hv2,hcap2,hsr⟩:=gz r2.bg hwy
    obtain ⟨b2,off2,rfl,us,hrl,hul,hone,hcell⟩:=hsr.resolve_left hne
    have hfc:∀w':World,w'.heap=w.heap->(Builtin.firstCells i.size ys.length (a.eval y')).run P w' = .ok us.toArray w':=fun w' hw'=>by
     have:=ij (P:=P) (w:=w') b2 off2 (ys.length*i.size) (fun p=>(us[p]?).getD undef) fun p hp=>by
      have h1:=(hcell p _ (List.getElem?_eq_getElem (by omega))).1
      simp only [World.cell?,hw'] at h1 ⊢
      rw [h1,List.getElem?_eq_getElem (show p<us.length by omega)]; rfl
     rw [hv2]
     simp only [Builtin.firstCells]
     rw [this]
     congr 2
     apply List.ext_getElem?
     intro p
     rw [List.getElem?_map]
     rcases Nat.lt_or_ge p (ys.length*i.size) with h|h
     ·rw [List.getElem?_range h]
      simp [List.getElem?_eq_getElem (show p<us.length by omega)]
     ·rw [List.getElem?_eq_none (by simpa using h),List.getElem?_eq_none (by omega)]; rfl
    have hlen:∀w':World,(Builtin.lenOf (a.eval y')).run P w' = .ok ys.length w':=fun w'=>by rw [hv2]; rfl
    obtain ⟨_,hid,_,g⟩:=r1.gm
    obtain ⟨e1,_,_,⟨hx,hj0,A,hvA⟩|⟨b,cap,row,t0,l3,l4,l5,l6,l7⟩⟩:=(g sz0 v0 xs hM).2 rfl
    ·subst hx
     subst e1
     have hA0:∀w':World,w'.heap=w.heap->(Builtin.firstCells i.size 0 (.slice A 0 0)).run P w' = .ok #[] w':=fun w' _=>by
      cases A<;>simp [Builtin.firstCells,loadCells,loadCellsFrom]
     obtain ⟨_,A2⟩:=pP (P:=P) (w:=w) hs hs' (fun k h=>by cases h) hi hz hb0 hb1 o.type (base:=A) (n:=0) (cap:=0) (m:=ys.length) hlen hA0 hfc (by simpa [bB] using hroom)
     obtain ⟨newCap,rest,h1,h2,h3⟩:=A2 (by omega)
     obtain ⟨q,hbk,dH⟩:=iH (w:=w) (.cells (#[]++us.toArray++rest) e (0,0))
     rw [<-hvA] at h3
     refine ⟨_,_,.inl (by rw [hexec _ h3]; rfl),?_⟩
     have:=GC (c':=newCap) (e:=e) (v := .slice (some ⟨w.heap.size,0,none⟩) (0+ys.length) newCap) (w':={ w with heap:=w.heap.push (.cells (#[]++us.toArray++rest) e (0,0)),drawn:=w.drawn+1 }) hr hM hwy hrl (by omega) (by rw [Nat.zero_add]) ⟨q.size,rfl,rfl,rfl⟩ hbk dH (by
      simp only [Array.size_append,List.size_toArray,h2,hzs,hul,List.length_nil]
      rw [Nat.zero_add,Nat.zero_add,<-Nat.add_mul]
      exact Nat.mul_le_mul_right _ (by omega)) (fun p hp=>by
      rw [Array.getElem?_append_left (by simpa using hp)]; simp)
     simpa using this
    ·subst e1
     rw [Nat.sub_zero] at l4 l5
     rw [Nat.zero_mul] at l4
     rw [Nat.zero_add] at l7
     obtain ⟨b',row0,t',k1,k2,k3,k4,k5⟩:=hr.qw hM l3
     rw [l3] at k1; injection k1 with k1; subst k1
     rw [l6] at k2; injection k2 with k2; injection k2 with k2 k2'
     subst k2; subst k2'
     have key:=fun v w' hq=>Db (v:=v) (w':=w') hr hM l3 l6 l5 l7 k4 hwy hne hrl hq
     have hfx:∀w':World,w'.heap=w.heap->(Builtin.firstCells i.size xs.length (.slice (some ⟨b,0,none⟩) xs.length cap)).run P w' = .ok (row.toList.take (xs.length*i.size)).toArray w':=fun w' hw'=>by
      have:=ij (P:=P) (w:=w') b 0 (xs.length*i.size) (fun p=>(row[p]?).getD undef) fun p hp=>by
       simp only [World.cell?,hw',l6,Nat.zero_add]
       rw [Array.getElem?_eq_getElem (show p<row.size by omega)]; rfl
      simp only [Builtin.firstCells]
      rw [this]
      congr 2
      apply List.ext_getElem?
      intro p
      rw [List.getElem?_map,List.getElem?_take]
      rcases Nat.lt_or_ge p (xs.length*i.size) with h|h
      ·rw [List.getElem?_range h,if_pos h]
       simp [Array.getElem?_eq_getElem (show p<row.size by omega)]
      ·rw [if_neg (by omega),List.getElem?_eq_none (by simpa using h)]; rfl
     obtain ⟨A1,A2⟩:=pP (P:=P) (w:=w) hs hs' (fun k h=>by cases h) hi hz hb0 hb1 o.type (base:=some ⟨b,0,none⟩) (n:=xs.length) (cap:=cap) (m:=ys.length) hlen hfx hfc (by simpa [bB] using hroom)
     rcases Nat.lt_or_ge cap (xs.length+ys.length) with hlt|hge
     ·obtain ⟨newCap,rest,h1,h2,h3⟩:=A2 hlt
      obtain ⟨q,hbk,dH⟩:=iH (w:=w) (.cells ((row.toList.take (xs.length*i.size)).toArray++us.toArray++rest) e (0,0))
      have htk:(row.toList.take (xs.length*i.size)).length=xs.length*i.size:=by simp; omega
      rw [<-l4] at h3
      refine ⟨_,{ w with heap:=w.heap.push (.cells ((row.toList.take (xs.length*i.size)).toArray++us.toArray++rest) e (0,0)),drawn:=w.drawn+1 },.inl (by rw [hexec _ h3]; rfl),key _ _ (.inr ⟨newCap,_,e,h1,rfl,⟨q.size,rfl,rfl,rfl⟩,hbk,dH,?_,fun p hp=>?_⟩)⟩
      ·simp only [Array.size_append,List.size_toArray,h2,hzs,hul,htk]
       rw [<-Nat.add_mul,<-Nat.add_mul]
       exact Nat.mul_le_mul_right _ (by omega)
      ·rw [Array.getElem?_append_left (by simp only [Array.size_append,List.size_toArray,hul,htk]; rw [<-Nat.add_mul]; exact hp)]
       simp [List.getElem?_append,Array.getElem?_append]
     ·have hfit:xs.length*i.size+0+us.length<=row.size:=by
       rw [hul,Nat.add_zero,<-Nat.add_mul]; exact Nat.le_trans (Nat.mul_le_mul_right _ hge) l7
      have hst:=fG (P:=P) us w (xs.length*i.size) 0 row l6 hfit hone
      simp only [Nat.add_zero] at hst
      have hadd:(⟨b,0,none⟩:Addr).add (xs.length*i.size)=⟨b,xs.length*i.size,none⟩:=by simp [eV]
      have h3:=A1 hge (gF w b (xs.length*i.size) us) (by
       show (storeCells ((⟨b,0,none⟩:Addr).add (xs.length*i.size)) us.toArray.toList).run P w=_
       rw [hadd]; exact hst)
      rw [<-l4] at h3
      exact ⟨_,_,.inl (by rw [hexec _ h3]; rfl),key _ _ (.inl ⟨hge,rfl,rfl⟩)⟩
   ·cases h
  ·cases h
def K0 (hr:Rel j M w) (he:aL j M w env a) {c:Call} {y y':Operand} {z z':cj} {t t' e e':TypeId} {n:Nat} (hop:o.op = .call c) (hb:c.callee = .builtin .copy) (ha:c.args.toList=[y,y'])
  (hat:c.argTypes.toList=[t,t']) (hs:P.underlying t=some (.slice e)) (hs':P.underlying t'=some (.slice e')) (hn:hZ P e=some n) (hpos:0<n)
  (hz:bo y=some z) (hz':bo y'=some z') (h:bd C env M (.wL n z z')=some x):∃v w',im P o a w v w'/\cG j M w x v w':=by
 simp only [bd] at h
 have r1:=aN he hz
 have r2:=aN he hz'
 have ha':c.args = #[y,y']:=by rw [<-ha]
 have hat':c.argTypes = #[t,t']:=by rw [<-hat]
 have hexec:∀r,(Builtin.copy_ #[t,t'] o.type #[a.eval y,a.eval y']).run P w=r->(execOp a.eval o).run P w=r.andThen fun v w' => .ok (.value v) w':=by
  intro r hr'
  simp [execOp,hop,resolve,hb,invoke,builtin,ha',hat',hr']
 have hsz:(sizeOf e).run P w = .ok n w:=cY hn
 split at h
 ·rename_i tk ys ex ey
  rw [ex] at r1; rw [ey] at r2
  obtain ⟨hwy,h⟩:=aP h
  injection h with h; subst h
  obtain ⟨B,cap2,hv2,_,_⟩:=gz r2.bg hwy
  obtain ⟨A,cap,hv,_,_⟩:=gz (size:=n) r1.bg (fun y hy=>by cases hy)
  refine ⟨.int .i64 0,w,.inl ?_,.still hr (.plain (.int _ _))⟩
  rw [hexec _ rfl,hv,hv2]
  cases A<;>cases B<;>simp [Builtin.copy_,bf hs,hsz,Builtin.lenOf,Builtin.firstCells,loadCells,loadCellsFrom,storeCells,goInt,Result.andThen]
 ·rename_i id ver sz' lo hi0 tk ys ex ey
  rw [ex] at r1; rw [ey] at r2
  rw [bE] at h
  split at h
  ·rename_i sz0 v0 xs hM
   obtain ⟨⟨d1,d2,hwy,hne0⟩,h9⟩:=aP h
   injection h9 with h9
   subst h9; subst d1; subst d2
   obtain ⟨_,hid,_,g⟩:=r1.gm
   obtain ⟨e1,l1,l2,⟨hx,_⟩|⟨b,cap,row,t0,l3,l4,l5,l6,l7⟩⟩:=(g sz0 v0 xs hM).2 rfl
   ·exact absurd hne0 (by rw [hx]; simp)
   subst e1
   obtain ⟨b',row0,t',k1,k2,k3,k4,k5⟩:=hr.qw hM l3
   rw [l3] at k1; injection k1 with k1; subst k1
   rw [l6] at k2; injection k2 with k2; injection k2 with k2 k2'
   subst k2; subst k2'
   obtain ⟨B,cap2,hv2,hcap2,hsr⟩:=gz r2.bg hwy
   generalize hm:min ys.length (hi0-lo)=m
   have hm1:m<=ys.length:=by omega
   have hm2:m<=hi0-lo:=by omega
   -- what is copied
   obtain ⟨us,hul,hrl,hone,hfc⟩:∃us:List Value,us.length=m*sz0/\RL w (fJ j M w) (dD (ys.take m)) us/\(∀u,u∈us->u.oneCell'=true)/\(Builtin.firstCells sz0 m (.slice B ys.length cap2)).run P w = .ok us.toArray w:=by
    rcases hsr with rfl|⟨b2,off2,rfl,us,hrl,hul,hone,hcell⟩
    ·have:m=0:=by simpa using hm1
     subst this
     refine ⟨[],by simp,⟨rfl,fun p c v h=>by simp [dD] at h⟩,fun u hu=>by (cases hu),?_⟩
     cases B<;>simp [Builtin.firstCells,loadCells,loadCellsFrom]
    ·have hle:m*sz0<=us.length:=by rw [hul]; exact Nat.mul_le_mul_right _ hm1
     refine ⟨us.take (m*sz0),by simp; omega,by rw [jx m hwy]; exact hrl.take _,fun u hu=>hone u (List.mem_of_mem_take hu),?_⟩
     have:=ij (P:=P) (w:=w) b2 off2 (m*sz0) (fun p=>(us[p]?).getD undef) fun p hp=>by
      rw [(hcell p _ (List.getElem?_eq_getElem (by omega))).1,List.getElem?_eq_getElem (show p<us.length by omega)]; rfl
     simp only [Builtin.firstCells]
     rw [this]
     congr 2
     apply List.ext_getElem?
     intro p
     rw [List.getElem?_map,List.getElem?_take]
     rcases Nat.lt_or_ge p (m*sz0) with h|h
     ·rw [List.getElem?_range h,if_pos h]
      simp [List.getElem?_eq_getElem (show p<us.length by omega)]
     ·rw [if_neg (by omega),List.getElem?_eq_none (by simpa using h)]; rfl
   have hrow:=oS (b:=b) k3 k4 k5
   have hbd:lo*sz0+m*sz0<=xs.length*sz0:=by rw [<-Nat.add_mul]; exact Nat.mul_le_mul_right _ (by omega)
   have hfit:lo*sz0+us.length<=row.size:=by rw [hul]; omega
   have hst:=fG (P:=P) us w (lo*sz0) 0 row l6 (by omega) hone
   obtain ⟨s1,s2,s3,s4,s5,row2,s6,s7,s8,s9⟩:=eT (t:=t0) us w (lo*sz0) row l6 hfit
   have hwd':wid (xs.take lo++(ys.take m++xs.drop (lo+m))) sz0:=fH (mN k4) (fH (mN hwy) (mM k4))
   have dH:RL w (fJ j M w) (dD (xs.take lo++(ys.take m++xs.drop (lo+m)))) ((row.toList.take (xs.length*sz0)).take (lo*sz0)++(us++(row.toList.take (xs.length*sz0)).drop ((lo+m)*sz0))):=by
    rw [gh,gh,jx lo k4,kM (lo+m) k4]
    exact (hrow.take _).append (hrl.append (hrow.drop _))
   have hll:(xs.take lo++(ys.take m++xs.drop (lo+m))).length=xs.length:=by simp; omega
   have hmm:(lo+m)*sz0=lo*sz0+m*sz0:=Nat.add_mul ..
   have hput:=oQ (ver':=v0) (xs':=xs.take lo++(ys.take m++xs.drop (lo+m))) hr hM l3 (w':=gF w b (lo*sz0) us) ⟨by omega,s2,s3,s4⟩ (fun b' hb' _=>s5 b' hb') l6 s6 s7 (Nat.le_refl _) (fun _=>hll) hwd' dH (fun p hp=>by
    have hp':p<xs.length*sz0:=by
     rw [<-dH.1,cK hwd',hll] at hp; exact hp
    have htk:(List.take (lo*sz0) (row.toList.take (xs.length*sz0))).length=lo*sz0:=by simp; omega
    rcases Nat.lt_or_ge p (lo*sz0) with q1|q1
    ·rw [s8 p (.inl q1),List.getElem?_append_left (by rw [htk]; exact q1),List.getElem?_take_of_lt q1,List.getElem?_take_of_lt hp']; simp
    ·rw [List.getElem?_append_right (by rw [htk]; exact q1),htk]
     rcases Nat.lt_or_ge p (lo*sz0+m*sz0) with q2|q2
     ·rw [List.getElem?_append_left (by rw [hul]; omega)]
      have:=s9 (p-lo*sz0) (by rw [hul]; omega)
      rw [Nat.add_sub_cancel' q1] at this
      exact this
     ·rw [List.getElem?_append_right (by rw [hul]; omega),s8 p (.inr (by rw [hul]; omega)),List.getElem?_drop,hul,hmm,show lo*sz0+m*sz0+(p-lo*sz0-m*sz0)=p by omega,List.getElem?_take_of_lt hp']; simp)
   rw [cd]
   refine ⟨.int .i64 (m:Int),gF w b (lo*sz0) us,.inl ?_,j,hput.1,hput.2,.plain (.int _ _)⟩
   rw [hexec _ rfl,l4,hv2]
   have hmin:Nat.min ys.length (hi0-lo)=m:=hm
   simp only [Nat.add_zero] at hst
   simp [Builtin.copy_,bf hs,hsz,Builtin.lenOf,hmin,hfc,hst,goInt,Result.andThen]
  ·cases h
 ·cases h
def Ox (hr:Rel j M w) {t:TypeId} {i:TypeInfo} {zv:Value} {n:Nat} (hop:o.op = .alloc t) (hi:P.info? t=some i) (hzv:i.zero=some zv) (hl:jL zv.cells.toList=some [.slice .c0 []])
  (h:bd C env M (.Ey n)=some x):∃v w',im P o a w v w'/\cG j M w x v w':=by
 simp only [bd] at h
 injection h with h; subst h
 have q:Quiet w w:=⟨Nat.le_refl _,rfl,rfl,rfl⟩
 have h1:Rel (bX j M.length none) (M++[.arr n 0 []]) w:=hr.push (ob:=none) (bx := .arr n 0 []) (fun b h=>by cases h) q (fun _ _=>rfl) (fun h=>by cases h) (fun sz n b h h'=>by cases h') (fun sz ver xs h=>by injection h with e1 e2 e3; exact .inl ⟨e3.symm,rfl⟩)
 have h2:Ext j M w (bX j M.length none) (M++[.arr n 0 []]) w:=Ext.push (fun b h=>by cases h) q (fun _ _=>rfl)
 obtain ⟨k1,k2⟩:=gJ (j:=bX j M.length none) (M:=M++[.arr n 0 []]) (w:=w) hl
 have hs1:zv.cells.size=1:=by simpa using k1.symm
 have hv0:∃A,zv.cells[0]?=some (.slice A 0 0):=by
  have hv:=Array.getElem?_eq_getElem (show 0<zv.cells.size by omega)
  obtain ⟨A,hA⟩:=(k2 0 _ (zv.cells[0]'(by omega)) rfl (by simp)).uO
  exact ⟨A,by rw [hv,hA]⟩
 obtain ⟨A,hA⟩:=hv0
 have hrc:RC (bX j M.length none) (M++[.arr n 0 []]) w [.aZ M.length 0 n 0 0] zv.cells:=by
  refine ⟨by simp [hs1],fun p c v hc hv=>?_⟩
  cases p with
  |zero =>
   simp at hc; subst hc
   rw [hA] at hv; injection hv with hv; subst hv
   refine .aZ (.inr ⟨rfl,A,rfl⟩) (by simp) (fun bx hbx=>by rw [fZ] at hbx; injection hbx with hbx; subst hbx; rfl) fun sz' v' zs hx=>?_
   rw [fZ] at hx; injection hx with hx; injection hx with e1 e2 e3
   subst e1; subst e2; subst e3
   exact ⟨Nat.le_refl _,fun _=>⟨rfl,Nat.le_refl _,Nat.le_refl _,.inl ⟨rfl,by simp [bX],A,rfl⟩⟩⟩
  |succ p=>simp at hc
 obtain ⟨j',g1,g2,g3⟩:=yE h1 hrc t
 refine ⟨_,_,.inl (show (execOp a.eval o).run P w = .ok (.value (.pointer (some ⟨w.heap.size,0,none⟩))) { w with heap:=w.heap.push (.cells zv.cells t (0,0)) } by simp [execOp,hop,Instr.alloc,zeroValue,gu hi,hzv,newVar,newRow]),j',?_,?_,?_⟩
 ·simpa using g1
 ·simpa using h2.trans g2
 ·simpa using g3
end
section
variable {P:Program} {C:bt} {own:List Nat} {o:Oper} {ao:dS} {env:Env} {M:ag} {j:J} {w:World} {a:Act} {x:ae×ag}
def kG (P:Program) (o:Oper) (a:Act) (w:World) (K:Act->World->Prop) (KP:Value->World->Prop):Prop :=
 (∃v w',im P o a w v w'/\K (a.put o.dst v) w')\/(∃f us,(execOp a.eval o).run P w = .ok (.enter f us) w/\Calls P f us w fun e w'=>(∃v,e = .returned v/\K (a.put o.dst v) w')\/∃u,e = .panicked [{ v:=u,recovered:=false }]/\KP u w') \/
  ∃u,(execOp a.eval o).run P w = .halt (.panic u) w/\KP u w
def bl {K:Act->World->Prop} {KP:Value->World->Prop} (h:∃v w',im P o a w v w'/\cG j M w x v w') (hK:∀v w',cG j M w x v w'->K (a.put o.dst v) w'):kG P o a w K KP:=by
 obtain ⟨v,w',h1,h2⟩:=h
 exact .inl ⟨v,w',h1,hK v w' h2⟩
def ph {K:Act->World->Prop} {KP:Value->World->Prop} {f:Nat} {us:Array Value} (hrun:(execOp a.eval o).run P w = .ok (.enter f us) w)
  (h:Calls P f us w fun e w'=>mQ j M w x e w') (hK:∀v w',cG j M w x v w'->K (a.put o.dst v) w') (hP:∀u w',zf j M w x u w'->KP u w'):kG P o a w K KP :=
 .inr (.inl ⟨f,us,hrun,h.mono fun e w' he=>he.imp (fun ⟨v,he,hv⟩=>⟨v,he,hK v w' hv⟩) fun ⟨u,he,hu⟩=>⟨u,he,hP u w' hu⟩⟩)
def Wd (r:Option Nat):Fence:={ Fence.wide with round:=r }
def BM {r:Option Nat} {n f:Nat} {args:Array Value} {R:Ending->World->Prop} (h:Calls P f args w R):CallsIn (Wd r) n P f args w R:=by
 cases r with
 |none=>exact callsIn_wide.2 h
 |some l=>exact CallsIn.inRound l (callsIn_wide.2 h)
def kG.wpIn {K:Act->World->Prop} {KP:Value->World->Prop} {Q:Exit->Act->World->Prop} {r:Option Nat} {n:Nat} (hd:∀c,o.op ≠ .defer c) (h:kG P o a w K KP)
  (hQ:∀u w',KP u w'->Q (.panic [{ v:=u,recovered:=false }]) a w'):o.wpIn (Wd r) n P a w K Q:=by
 refine ⟨fun _ _=>trivial,?_⟩
 rw [Oper.semAt_eq _ _ _ hd]
 rcases h with ⟨v,w',h1|⟨h1,rfl⟩,h2⟩|⟨f,us,h1,h2⟩|⟨u,h1,h2⟩
 ·rw [h1]; exact h2
 ·rw [h1]; exact h2
 ·rw [h1]
  refine ⟨fun h=>(by cases h),BM (h2.mono ?_)⟩
  rintro e w' (⟨v,rfl,hv⟩|⟨u,rfl,hu⟩)
  ·exact hv
  ·exact hQ u w' hu
 ·rw [h1]; exact hQ u w h2
def rp (ho:Gk P own o=some ao):∀c,o.op ≠ .defer c:=by
 intro c h
 simp [Gk,h] at ho
def jw {f:Nat} (h:fu P f=true) (us:Array Value):(callFunc f us).run P w = .ok (.enter f us) w:=by
 unfold fu at h
 split at h
 ·rename_i fn hfn
  rw [Bool.and_eq_true] at h
  have h1:fn.name ≠ "runtime.NumGoroutine" := by simpa using h.1
  have h2:¬fn.body=none:=by intro hb; rw [hb] at h; simp at h
  simp [callFunc,hfn,h1,h2]
 ·cases h
def bQ.shut {c:ae} {v:Value} (h:bQ j M w c v):bQ j M w c.shut v:=by
 cases c<;>first|exact h|exact .plain h.bg
def bQ.bS {c:ae} {v:Value} (h:bQ j M w c v):bQ j M w c.bS v:=by
 cases c<;>first|exact h|exact .plain h.bg|skip
 obtain ⟨vs,rfl,hl,hc⟩:=h.eK
 refine .agg (by simpa using hl) fun i c u hi hu=>?_
 rw [List.getElem?_map,Option.map_eq_some_iff] at hi
 obtain ⟨c0,hc0,rfl⟩:=hi
 exact (hc i c0 u hc0 hu).shut
def EC {c:Call} {f0 f:Nat} {l:List cj} (hop:o.op = .call c) (hcal:c.callee = .value (.func f0)) (h:Gk P own o=some (.nq f l)):f0=f/\fu P f=true/\mb c.args.toList=some l:=by
 simp only [Gk,hop,GG,hcal] at h
 split at h
 ·rename_i hent
  obtain ⟨l',hl,h⟩:=an h
  injection h with h
  split at h
  ·cases h
  split at h
  ·cases h
  split at h
  ·injection h with h1 h2
   subst h1; subst h2
   exact ⟨rfl,hent,hl⟩
  ·cases h
 ·cases h
def pR (hC:hU P C) {c:Call} {f0 f:Nat} {l:List cj} (hop:o.op = .call c) (hcal:c.callee = .value (.func f0)) (ho:Gk P own o=some (.nq f l)) {M0:ag} (h:bd C env M0 (.nq f l)=some x) :
  ∃xs sz n,x=(.slice (.own M0.length) xs,M0++[.tick sz n])/\∀ {j:J} {G:ag} {w:World} {a:Act} {p:Nat} {K:Act->World->Prop} {KP:Value->World->Prop},Rel j G w->j4 j G w->aL j G w env a->G[p]?=some .mO ->
   (∀v w',cG j G w (.slice (.own p) xs,G.set p (.tick sz n)) v w'->K (a.put o.dst v) w')->kG P o a w K KP:=by
 obtain ⟨rfl,hent,hl⟩:=EC hop hcal ho
 simp only [bd] at h
 unfold sP at h
 split at h
 ·rename_i hc
  obtain ⟨hc1,hc2⟩:=hc
  obtain ⟨y,hy,h⟩:=au h
  split at h
  ·rename_i x1 x2 xs sz n e1 e2
   injection h with h; subst h
   refine ⟨xs,sz,n,rfl,fun {j G w a p K KP} hr hG he hp hK=>?_⟩
   obtain ⟨l1,l2⟩:=kV he hl
   have hy':C f0 (l.map fun x=>(x.ev env).bS) []=some (.slice (.own 0) xs,[.tick sz n]):=by
    rw [hy,<-e1,<-e2]
   obtain ⟨_,hcl⟩:=FW (us:=c.args.map a.eval) hC hr hG hp hc1 hc2 hy' (by simpa using l1) fun i c' u hc' hu=>by
    rw [List.getElem?_map,Option.map_eq_some_iff] at hc'
    obtain ⟨y,hy,rfl⟩:=hc'
    rw [Array.getElem?_map,Option.map_eq_some_iff] at hu
    obtain ⟨q,hq,rfl⟩:=hu
    exact (l2 i y q hy (by simpa using hq)).bS
   exact .inr (.inl ⟨f0,_,by simp [execOp,hop,resolve,hcal,Act.eval,Deferred.ofValue,invoke,jw hent],hcl.mono fun e w' ⟨v,he,hv⟩ => .inl ⟨v,he,hK v w' hv⟩⟩)
  ·cases h
 ·cases h
def vG (hC:hU P C) (ho:Gk P own o=some ao) (h:bd C env M ao=some x) (hr:Rel j M w) (hG:j4 j M w) (he:aL j M w env a) {K:Act->World->Prop}
  (hK:∀v w',cG j M w x v w'->K (a.put o.dst v) w') {KP:Value->World->Prop} (hP:∀u w',zf j M w x u w'->KP u w'):kG P o a w K KP:=by
 have ho0:=ho
 unfold Gk at ho
 split at ho
 case h_1 y hop =>
  obtain ⟨z,hz,ho⟩:=an ho
  injection ho with ho; subst ho
  exact bl (uv hr he (.inl hop) hz h) hK
 case h_2 y hop =>
  obtain ⟨z,hz,ho⟩:=an ho
  split at ho
  ·split at ho
   ·split at ho
    ·obtain ⟨n,hn,ho⟩:=an ho
     split at ho
     ·injection ho with ho; subst ho
      exact bl (S3 hr he hop hz h) hK
     ·injection ho with ho; subst ho
      exact bl (uv hr he (.inr hop) hz h) hK
    ·cases ho
   ·injection ho with ho; subst ho
    exact bl (uv hr he (.inr hop) hz h) hK
  ·injection ho with ho; subst ho
   exact bl (uv hr he (.inr hop) hz h) hK
 case h_3 c p q hop =>
  obtain ⟨c',hc,ho⟩:=an ho
  obtain ⟨p',hp,ho⟩:=an ho
  obtain ⟨q',hq,ho⟩:=an ho
  injection ho with ho; subst ho
  exact bl (OG hr he hop hc hp hq h) hK
 case h_4 t hop =>
  obtain ⟨i,hi,ho⟩:=an ho
  obtain ⟨z,hz,ho⟩:=an ho
  obtain ⟨l,hl,ho⟩:=an ho
  split at ho
  ·split at ho
   ·injection ho with ho; subst ho
    exact bl (Ow hr hop hi hz hl h) hK
   ·split at ho
    ·split at ho
     ·obtain ⟨n,hn,ho⟩:=an ho
      injection ho with ho; subst ho
      exact bl (Ox hr hop hi hz hl h) hK
     ·cases ho
    ·injection ho with ho; subst ho
     exact bl (DT hr hop hi hz hl h) hK
  ·injection ho with ho; subst ho
   exact bl (DT hr hop hi hz hl h) hK
 case h_5 t y hop =>
  obtain ⟨z,hz,ho⟩:=an ho
  split at ho
  ·split at ho<;>(injection ho with ho; subst ho)
   ·exact bl (Oy hr he hop hz h) hK
   ·exact bl (KY hr he hop hz h) hK
  ·injection ho with ho; subst ho
   exact bl (KY hr he hop hz h) hK
 case h_6 t parts hop =>
  split at ho
  ·rename_i fs hfs
   obtain ⟨i,hi,ho⟩:=an ho
   obtain ⟨z,hz,ho⟩:=an ho
   obtain ⟨l,hl,ho⟩:=an ho
   obtain ⟨ps,hps,ho⟩:=an ho
   split at ho
   ·rename_i hall
    injection ho with ho; subst ho
    exact bl (KZ hr he hop hfs hi hz hl hps hall h) hK
   ·cases ho
  ·rename_i len e ht
   obtain ⟨i,hi,ho⟩:=an ho
   obtain ⟨z,hz,ho⟩:=an ho
   obtain ⟨l,hl,ho⟩:=an ho
   obtain ⟨n,hn,ho⟩:=an ho
   obtain ⟨ps,hps,ho⟩:=an ho
   injection ho with ho; subst ho
   exact bl (FC hr he hop ht hi hz hl hn hps h) hK
  ·cases ho
 case h_7 t len parts hop =>
  split at ho
  ·rename_i e ht
   obtain ⟨i,hi,ho⟩:=an ho
   obtain ⟨l,hl,ho⟩:=an ho
   split at ho
   ·rename_i hc
    injection ho with ho; subst ho
    split at h
    ·split at h
     ·exact bl (K7 hr he hop ht hi hl hc.1 hc.2.1 hc.2.2.1 h) hK
     ·exact bl (DU hr he hop ht hi hl hc.1 hc.2.1 hc.2.2.1 h) hK
    ·exact bl (DU hr he hop ht hi hl hc.1 hc.2.1 hc.2.2.1 h) hK
   ·cases ho
  ·cases ho
 case h_8 t y hop =>
  obtain ⟨g,hg,ho⟩:=an ho
  obtain ⟨n,hn,ho⟩:=an ho
  obtain ⟨z,hz,ho⟩:=an ho
  injection ho with ho; subst ho
  cases g
  ·exact bl (K8 hr he hop hg hz h) hK
  ·exact bl (K9 hr he hop hg hn hz h) hK
 case h_9 t y y' hop =>
  obtain ⟨n,hn,ho⟩:=an ho
  obtain ⟨z,hz,ho⟩:=an ho
  obtain ⟨z',hz',ho⟩:=an ho
  injection ho with ho; subst ho
  cases z with
  |tmp s =>
   dsimp only at h
   split at h
   ·exact bl (FM hr he hop hn hz hz' h) hK
   ·exact bl (vH hr he hop hn hz hz' h) hK
  |_=>exact bl (vH hr he hop hn hz hz' h) hK
 case h_10 y hop =>
  obtain ⟨z,hz,ho⟩:=an ho
  injection ho with ho; subst ho
  exact bl (S0 hr he hop hz h) hK
 case h_11 op t y y' t' hop =>
  obtain ⟨z,hz,ho⟩:=an ho
  obtain ⟨z',hz',ho⟩:=an ho
  split at ho
  ·obtain ⟨b,hb,ho⟩:=an ho
   injection ho with ho; subst ho
   exact bl (KW hr he hop hb hz hz' h) hK
  ·obtain ⟨b,hb,ho⟩:=an ho
   injection ho with ho; subst ho
   exact bl (KW hr he hop hb hz hz' h) hK
  ·rename_i ht
   split at ho
   ·injection ho with ho; subst ho
    exact bl (K3 (neg:=false) hr he hop ht hz hz' h) hK
   ·injection ho with ho; subst ho
    exact bl (K3 (neg:=true) hr he hop ht hz hz' h) hK
   ·cases ho
  ·rename_i fs ht
   split at ho
   ·cases ho
   ·rename_i hst
    obtain ⟨ks,hks,ho⟩:=an ho
    have hst':P.stoodInHeld t=false:=by simpa using hst
    split at ho
    ·injection ho with ho; subst ho
     exact bl (K1 (neg:=false) hr he hop ht hst' hks hz hz' h) hK
    ·injection ho with ho; subst ho
     exact bl (K1 (neg:=true) hr he hop ht hst' hks hz hz' h) hK
    ·cases ho
  ·rename_i len e ht
   split at ho
   ·split at ho
    ·rename_i hs
     injection ho with ho; subst ho
     exact bl (K2 hr he hop ht (by assumption) hs hz hz' h) hK
    ·cases ho
   ·cases ho
  ·cases ho
 case h_12 t y hop =>
  obtain ⟨z,hz,ho⟩:=an ho
  injection ho with ho; subst ho
  exact bl (S2 hr he hop hz h) hK
 case h_13 t y hop =>
  obtain ⟨z,hz,ho⟩:=an ho
  injection ho with ho; subst ho
  exact bl (S1 hr he hop hz h) hK
 case h_14 s d y hop =>
  obtain ⟨z,hz,ho⟩:=an ho
  split at ho
  ·rename_i hs hd
   injection ho with ho; subst ho
   exact bl (Oz hr he hop hs hd hz h) hK
  ·rename_i hs hd
   injection ho with ho; subst ho
   exact bl (OI hr he hop hs hd hz h) hK
  ·rename_i e hs hd
   split at ho
   ·rename_i hu
    injection ho with ho; subst ho
    exact bl (SZ hr he hop hs hd hu hz h) hK
   ·cases ho
  ·rename_i e hs hd
   split at ho
   ·rename_i hu
    injection ho with ho; subst ho
    exact bl (S5 hr he hop hs hd hu hz h) hK
   ·cases ho
  ·cases ho
 case h_15 f first caps hop =>
  split at ho
  ·rename_i hf
   obtain ⟨l,hl,ho⟩:=an ho
   injection ho with ho; subst ho
   exact bl (Zi hr he hop hf hl h) hK
  ·split at ho
   ·rename_i hf
    obtain ⟨l,hl,ho⟩:=an ho
    injection ho with ho; subst ho
    exact bl (KX hr he hop hf hl h) hK
   ·cases ho
 case h_16 t y lo hi mx hop =>
  obtain ⟨z,hz,ho⟩:=an ho
  obtain ⟨lo',hlo,ho⟩:=an ho
  obtain ⟨hi',hhi,ho⟩:=an ho
  obtain ⟨mx',hmx,ho⟩:=an ho
  split at ho
  ·rename_i ht
   split at ho
   ·rename_i hm
    injection ho with ho; subst ho
    have:mx=none:=by
     rcases iP hmx with ⟨e,_⟩|⟨_,_,_,e,_⟩
     ·exact e
     ·rw [e] at hm; cases hm
    subst this
    exact bl (FJ hr he hop ht hz hlo hhi h) hK
   ·cases ho
  ·rename_i e ht
   obtain ⟨n,hn,ho⟩:=an ho
   split at ho
   ·rename_i hc
    injection ho with ho; subst ho
    exact bl (FL hr he hop ht hn hz hlo hhi hmx hc.2 h) hK
   ·cases ho
  ·cases ho
 case h_17 s y i hop =>
  split at ho
  ·rename_i fs hs
   obtain ⟨f,hf,ho⟩:=an ho
   obtain ⟨n,hn,ho⟩:=an ho
   obtain ⟨z,hz,ho⟩:=an ho
   split at ho
   ·rename_i hpos
    injection ho with ho; subst ho
    exact bl (K4 hr he hop hs hf hn hpos hz h) hK
   ·cases ho
  ·cases ho
 case h_18 s y i hop =>
  split at ho
  ·rename_i fs hs
   obtain ⟨f,hf,ho⟩:=an ho
   obtain ⟨g,hg,ho⟩:=an ho
   obtain ⟨n,hn,ho⟩:=an ho
   obtain ⟨z,hz,ho⟩:=an ho
   injection ho with ho; subst ho
   cases g
   ·exact bl (FE hr he hop hs hf hg hz h) hK
   ·exact bl (FF hr he hop hs hf hg hn hz h) hK
  ·cases ho
 case h_19 t y i hop =>
  split at ho
  ·rename_i e ht
   obtain ⟨n,hn,ho⟩:=an ho
   obtain ⟨z,hz,ho⟩:=an ho
   obtain ⟨z',hz',ho⟩:=an ho
   split at ho
   ·injection ho with ho; subst ho
    exact bl (K5 hr he hop ht hn hz hz' h) hK
   ·cases ho
  ·rename_i len e ht
   obtain ⟨n,hn,ho⟩:=an ho
   obtain ⟨z,hz,ho⟩:=an ho
   obtain ⟨z',hz',ho⟩:=an ho
   split at ho
   ·injection ho with ho; subst ho
    exact bl (FG hr he hop ht hn hz hz' h) hK
   ·cases ho
  ·cases ho
 case h_20 t y i hop =>
  split at ho
  ·rename_i ht
   obtain ⟨z,hz,ho⟩:=an ho
   obtain ⟨z',hz',ho⟩:=an ho
   injection ho with ho; subst ho
   exact bl (FI hr he hop ht hz hz' h) hK
  ·rename_i len e ht
   split at ho
   ·rename_i hc
    obtain ⟨z,hz,ho⟩:=an ho
    obtain ⟨z',hz',ho⟩:=an ho
    injection ho with ho; subst ho
    exact bl (FH hr he hop ht hc.1 hc.2 hz hz' h) hK
   ·cases ho
  ·cases ho
 case h_21 y i hop =>
  obtain ⟨z,hz,ho⟩:=an ho
  injection ho with ho; subst ho
  exact bl (CM hr he hop hz h) hK
 case h_22 c hop =>
  unfold GG at ho
  split at ho
  ·rename_i f hcal
   split at ho
   ·rename_i hent
    obtain ⟨l,hl,ho⟩:=an ho
    injection ho with ho; subst ho
    obtain ⟨l1,l2⟩:=kV he hl
    split at h
    ·simp only [bd] at h
     obtain ⟨_,hc⟩:=hC _ _ _ _ h
     refine ph (by simp [execOp,hop,resolve,hcal,Act.eval,Deferred.ofValue,invoke,jw hent]) ((hc j w (c.args.map a.eval) hr hG (by simpa using l1) fun i c' u hc' hu=>?_)) hK hP
     ·rw [List.getElem?_map,Option.map_eq_some_iff] at hc'
      obtain ⟨y,hy,rfl⟩:=hc'
      rw [Array.getElem?_map,Option.map_eq_some_iff] at hu
      obtain ⟨q,hq,rfl⟩:=hu
      exact l2 i y q hy (by simpa using hq)
    split at h
    ·simp only [bd] at h
     obtain ⟨f1,f2,f3,f4⟩:=uk (j:=j) (w:=w) ((l.map (cj.ev env)).flatMap ae.ids) hr
     obtain ⟨_,hc⟩:=iQ (us:=c.args.map a.eval) hC f2 (hG.mono f1) h (by simpa using l1) fun i c' u hc' hu=>by
      rw [List.getElem?_map,Option.map_eq_some_iff] at hc'
      obtain ⟨y,hy,rfl⟩:=hc'
      rw [Array.getElem?_map,Option.map_eq_some_iff] at hu
      obtain ⟨q,hq,rfl⟩:=hu
      exact ((l2 i y q hy (by simpa using hq)).mY hr f1 f2 f3 fun id hid=>f4 id (List.mem_flatMap.2 ⟨_,List.mem_map.2 ⟨y,List.mem_of_getElem? hy,rfl⟩,hid⟩)).bS
     refine ph (by simp [execOp,hop,resolve,hcal,Act.eval,Deferred.ofValue,invoke,jw hent]) (hc.mono ?_) hK hP
     rintro e w' (⟨v,rfl,j2,g1,g2,g3⟩|⟨u,rfl,hu,j2,g1,g2⟩)
     ·exact .inl ⟨v,rfl,j2,g1,f1.trans g2,g3⟩
     ·exact .inr ⟨u,rfl,hu,j2,g1,f1.trans g2⟩
    split at h
    ·rename_i h1 h2 h3
     rw [if_neg h1,if_neg h2,if_pos h3] at ho0
     obtain ⟨xs,sz,n,rfl,hrun⟩:=pR hC hop hcal (by rw [ho0]) h
     obtain ⟨j1,r1,x1⟩:=sQ hr 1
     refine hrun (p:=M.length) r1 (hG.mono x1) (he.mono x1) (by simp) fun v w' ⟨j',q1,q2,q3⟩=>hK v w' ⟨j',?_,?_,?_⟩
     ·simpa using q1
     ·simpa using x1.trans q2
     ·simpa using q3
    simp only [bd] at h
    obtain ⟨_,hc⟩:=iQ (us:=c.args.map a.eval) hC hr hG h (by simpa using l1) fun i c' u hc' hu=>by
     rw [List.getElem?_map,Option.map_eq_some_iff] at hc'
     obtain ⟨y,hy,rfl⟩:=hc'
     rw [Array.getElem?_map,Option.map_eq_some_iff] at hu
     obtain ⟨q,hq,rfl⟩:=hu
     exact (l2 i y q hy (by simpa using hq)).bS
    exact ph (by simp [execOp,hop,resolve,hcal,Act.eval,Deferred.ofValue,invoke,jw hent]) hc hK hP
   ·cases ho
  ·rename_i t hcal
   obtain ⟨l,hl,ho⟩:=an ho
   injection ho with ho; subst ho
   obtain ⟨l1,l2⟩:=kV he hl
   have hsz:l.length=c.args.size:=by simpa using l1
   simp only [bd] at h
   split at h
   ·rename_i g caps hg
    have hgr:=he.at' t
    simp only [cj.ev] at hg
    rw [hg] at hgr
    obtain ⟨vs,hvs,hcl,hcv⟩:=hgr.jR
    have hev:a.eval (.tmp t) = .func (.func g) #[] vs:=hvs
    obtain ⟨hent,hc⟩:=iQ (us:=c.args.map a.eval++vs) hC hr hG h (by simp; omega) fun i c' u hc' hu=>by
     rcases Nat.lt_or_ge i l.length with hi|hi
     ·rw [List.getElem?_append_left (by simpa using hi),List.getElem?_map,Option.map_eq_some_iff] at hc'
      obtain ⟨y,hy,rfl⟩:=hc'
      rw [Array.getElem?_append_left (by simp; omega),Array.getElem?_map,Option.map_eq_some_iff] at hu
      obtain ⟨q,hq,rfl⟩:=hu
      exact (l2 i y q hy (by simpa using hq)).bS
     ·rw [List.getElem?_append_right (by simpa using hi)] at hc'
      rw [Array.getElem?_append_right (by simp; omega)] at hu
      simp only [List.length_map] at hc'
      simp only [Array.size_map] at hu
      rw [<-hsz] at hu
      exact hcv _ c' u hc' hu
    exact ph (by simp [execOp,hop,resolve,hcal,hev,Deferred.ofValue,invoke,jw hent]) hc hK hP
   ·rename_i g fs hg
    have hgr:=he.at' t
    simp only [cj.ev] at hg
    rw [hg] at hgr
    obtain ⟨vs,hvs,hcl,hcv⟩:=hgr.yC
    have hev:a.eval (.tmp t) = .func (.func g) vs #[]:=hvs
    obtain ⟨hent,hc⟩:=iQ (us:=vs++c.args.map a.eval) hC hr hG h (by simp; omega) fun i c' u hc' hu=>by
     rcases Nat.lt_or_ge i fs.length with hi|hi
     ·rw [List.getElem?_append_left hi] at hc'
      rw [Array.getElem?_append_left (by omega)] at hu
      exact (hcv i c' u hc' hu).rep
     ·rw [List.getElem?_append_right hi,List.getElem?_map,Option.map_eq_some_iff] at hc'
      obtain ⟨y,hy,rfl⟩:=hc'
      rw [Array.getElem?_append_right (by omega),Array.getElem?_map,Option.map_eq_some_iff] at hu
      obtain ⟨q,hq,rfl⟩:=hu
      rw [<-hcl] at hq
      exact (l2 _ y q hy (by simpa using hq)).bS
    exact ph (by simp [execOp,hop,resolve,hcal,hev,Deferred.ofValue,invoke,jw hent]) hc hK hP
   ·rename_i rv hg
    have hgr:=he.at' t
    simp only [cj.ev] at hg
    rw [hg] at hgr
    split at h
    ·rename_i g
     have hev:a.eval (.tmp t) = .func (.func g) #[] #[]:=hgr.D1
     obtain ⟨hent,hc⟩:=iQ (us:=c.args.map a.eval) hC hr hG h (by simpa using l1) fun i c' u hc' hu=>by
      rw [List.getElem?_map,Option.map_eq_some_iff] at hc'
      obtain ⟨y,hy,rfl⟩:=hc'
      rw [Array.getElem?_map,Option.map_eq_some_iff] at hu
      obtain ⟨q,hq,rfl⟩:=hu
      exact (l2 i y q hy (by simpa using hq)).bS
     exact ph (by simp [execOp,hop,resolve,hcal,hev,Deferred.ofValue,invoke,jw hent]) hc hK hP
    ·cases h
   ·cases h
  ·rename_i hcal
   split at ho
   ·rename_i y ha ht
    obtain ⟨t,ht0,ht⟩:=Option.bind_eq_some_iff.1 ht
    obtain ⟨z,hz,ho⟩:=an ho
    injection ho with ho; subst ho
    exact bl (OB hr he hop hcal ha ht0 ht hz h) hK
   ·rename_i y e ha ht
    obtain ⟨t,ht0,ht⟩:=Option.bind_eq_some_iff.1 ht
    obtain ⟨z,hz,ho⟩:=an ho
    injection ho with ho; subst ho
    exact bl (OC hr he hop hcal ha ht0 ht hz h) hK
   ·rename_i y k e ha ht
    obtain ⟨t,ht0,ht⟩:=Option.bind_eq_some_iff.1 ht
    obtain ⟨z,hz,ho⟩:=an ho
    injection ho with ho; subst ho
    exact bl (OA hr he hop hcal ha ht0 ht hz h) hK
   ·cases ho
  ·rename_i hcal
   split at ho
   ·rename_i y y' t t' ha hat
    split at ho
    ·rename_i e e' ht ht'
     obtain ⟨n,hn,ho⟩:=an ho
     obtain ⟨z,hz,ho⟩:=an ho
     obtain ⟨z',hz',ho⟩:=an ho
     split at ho
     ·rename_i hpos
      injection ho with ho; subst ho
      exact bl (K0 hr he hop hcal ha hat ht ht' hn hpos hz hz' h) hK
     ·cases ho
    ·cases ho
   ·cases ho
  ·rename_i hcal
   split at ho
   ·rename_i y y' t t' ha hat
    split at ho
    ·rename_i e kn ht ht'
     obtain ⟨i,hi,ho⟩:=an ho
     obtain ⟨zv,hzv,ho⟩:=an ho
     obtain ⟨l,hl,ho⟩:=an ho
     obtain ⟨z,hz,ho⟩:=an ho
     obtain ⟨z',hz',ho⟩:=an ho
     split at ho
     ·rename_i hc
      obtain ⟨d1,d2,d3,d4⟩:=hc
      injection ho with hoo
      subst hoo
      exact bl (CL hr he hop hcal ha hat ht ht' hi hzv hl d1 d2 d3 d4 hz hz' h) hK
     ·cases ho
    ·rename_i e ht ht'
     obtain ⟨i,hi,ho⟩:=an ho
     obtain ⟨z,hz,ho⟩:=an ho
     obtain ⟨z',hz',ho⟩:=an ho
     split at ho
     ·rename_i hc
      injection ho with ho; subst ho
      simp only [Bool.and_eq_true,decide_eq_true_eq] at hc
      obtain ⟨⟨⟨_,c1⟩,c2⟩,c3⟩:=hc
      obtain ⟨zv,hzv,hzs⟩:=Option.map_eq_some_iff.1 c1
      have hat':c.argTypes = #[t,t']:=by rw [<-hat]
      exact bl (CK hr he hop hcal ha hat' ht ht' hi hzv hzs c2 c3 hz hz' h) hK
     ·cases ho
    ·rename_i e e' ht ht'
     obtain ⟨i,hi,ho⟩:=an ho
     obtain ⟨z,hz,ho⟩:=an ho
     obtain ⟨z',hz',ho⟩:=an ho
     split at ho
     ·split at ho
      ·rename_i hc
       injection ho with ho; subst ho
       simp only [Bool.and_eq_true,decide_eq_true_eq] at hc
       obtain ⟨⟨c1,c2⟩,c3⟩:=hc
       obtain ⟨zv,hzv,hzs⟩:=Option.map_eq_some_iff.1 c1
       have hat':c.argTypes = #[t,t']:=by rw [<-hat]
       exact bl (CI hr he hop hcal ha hat' ht ht' hi hzv hzs c2 c3 hz hz' h) hK
      ·cases ho
     split at ho
     ·rename_i hc
      injection ho with ho; subst ho
      simp only [Bool.and_eq_true,decide_eq_true_eq] at hc
      obtain ⟨⟨⟨c1,c2⟩,c3⟩,c4⟩:=hc
      obtain ⟨zv,hzv,hzs⟩:=Option.map_eq_some_iff.1 c1
      have hat':c.argTypes = #[t,t']:=by rw [<-hat]
      exact bl (FA hr he hop hcal ha hat' ht ht' hi hzv hzs c2 c3 c4 hz hz' h) hK
     ·cases ho
    ·cases ho
   ·cases ho
  ·rename_i hcal
   split at ho
   ·rename_i y t ha hat
    split at ho
    ·rename_i e ht
     obtain ⟨i,hi,ho⟩:=an ho
     obtain ⟨zv,hzv,ho⟩:=an ho
     obtain ⟨l,hl,ho⟩:=an ho
     obtain ⟨z,hz,ho⟩:=an ho
     split at ho
     ·rename_i hc
      injection ho with ho; subst ho
      exact bl (FD hr he hop hcal ha hat ht hi hzv hl hc.1 hz h) hK
     ·cases ho
    ·cases ho
   ·cases ho
  ·rename_i hcal
   split at ho
   ·rename_i y y' ha
    obtain ⟨z,hz,ho⟩:=an ho
    obtain ⟨z',hz',ho⟩:=an ho
    injection ho with ho; subst ho
    exact bl (xB (mx:=true) hr he hop hcal ha hz hz' h) hK
   ·cases ho
  ·rename_i hcal
   split at ho
   ·rename_i y y' ha
    obtain ⟨z,hz,ho⟩:=an ho
    obtain ⟨z',hz',ho⟩:=an ho
    injection ho with ho; subst ho
    exact bl (xB (mx:=false) hr he hop hcal ha hz hz' h) hK
   ·cases ho
  ·cases ho
 case h_23 t hop =>
  injection ho with ho; subst ho
  exact bl (La hr hop h) hK
 case h_24 t m k ok hop =>
  split at ho
  ·rename_i kt et ht
   obtain ⟨fk,hfk,ho⟩:=an ho
   obtain ⟨ie,hi,ho⟩:=an ho
   obtain ⟨zv,hzv,ho⟩:=an ho
   obtain ⟨z,hz,ho⟩:=an ho
   obtain ⟨m',hm,ho⟩:=an ho
   obtain ⟨k',hk,ho⟩:=an ho
   injection ho with ho; subst ho
   exact bl (OD hr he hop ht hfk hi hzv hz hm hk h) hK
  ·cases ho
 case h_25 t m k y hop =>
  split at ho
  ·rename_i kt et ht
   obtain ⟨fk,hfk,ho⟩:=an ho
   obtain ⟨m',hm,ho⟩:=an ho
   obtain ⟨k',hk,ho⟩:=an ho
   obtain ⟨y',hy,ho⟩:=an ho
   injection ho with ho; subst ho
   exact bl (Lf hr he (.inl hop) ht hfk hm hk (aN he hy) h) hK
  ·cases ho
 case h_26 t y hop =>
  split at ho
  ·rename_i ht
   obtain ⟨z,hz,ho⟩:=an ho
   injection ho with ho; subst ho
   exact bl (OH hr he hop ht hz h) hK
  ·cases ho
 case h_27 y hop =>
  obtain ⟨z,hz,ho⟩:=an ho
  injection ho with ho; subst ho
  exact bl (Lc hr he hop hz h) hK
 case h_28 t y hop =>
  obtain ⟨z,hz,ho⟩:=an ho
  split at ho
  ·cases ho
  ·rename_i d hd hu
   injection ho with ho; subst ho
   exact bl (K6 hr he hop hu (fun _=>hd _) hz h) hK
  ·cases ho
 case h_29 y hop =>
  obtain ⟨z,hz,ho⟩:=an ho
  injection ho with ho; subst ho
  obtain ⟨u,h1,h2⟩:=Ld (P:=P) hr he hop hz h
  exact .inr (.inr ⟨u,h1,hP u w h2⟩)
 case h_30 t m k y hop =>
  split at ho
  ·rename_i kt et ht
   obtain ⟨fk,hfk,ho⟩:=an ho
   obtain ⟨m',hm,ho⟩:=an ho
   obtain ⟨k',hk,ho⟩:=an ho
   obtain ⟨y',hy,ho⟩:=an ho
   injection ho with ho; subst ho
   exact bl (Lf hr he (.inr hop) ht hfk hm hk (Lg he hy) h) hK
  ·cases ho
 case h_31 t y y' hop =>
  split at ho
  ·rename_i e ht
   obtain ⟨i,hi,ho⟩:=an ho
   obtain ⟨zv,hzv,ho⟩:=an ho
   obtain ⟨l,hl,ho⟩:=an ho
   obtain ⟨z,hz,ho⟩:=an ho
   split at ho
   ·rename_i hc
    obtain ⟨hyy,c1,c2,c3⟩:=hc
    injection ho with hoo
    subst hoo
    subst hyy
    split at h
    ·split at h
     ·exact bl (OE hr he hop ht hi hzv hl hz c1 c2 c3 h) hK
     ·exact bl (Lb hr he hop ht hi hzv hl hz c1 c2 c3 h) hK
    ·exact bl (Lb hr he hop ht hi hzv hl hz c1 c2 c3 h) hK
   ·cases ho
  ·cases ho
 case h_32=>cases ho
end
section
variable {P:Program} {C:bt} {A:we}
def oy (a:Act) (d:Option Nat) (v:Value):(a.put d v).tmps.size=a.tmps.size:=by cases d<;>simp [Act.put]
def put_defers (a:Act) (d:Option Nat) (v:Value):(a.put d v).defers=a.defers:=by cases d<;>rfl
def rV {ops:Array Oper} {g:Bool} {o:Oper} {x:aR} (h:zz P A ops g o=some x):Gk P A.own o=some x.op/\x.dst=o.dst/\x.grow=g/\(∀d,o.dst=some d->d<A.n) /\
  ((o.guard=none/\x.guard=none)\/∃k want t,o.guard=some (k,want)/\x.guard=some (t,want)/\(ops[k]?).bind (·.dst)=some t/\t<A.n):=by
 unfold zz at h
 obtain ⟨op,hop,h⟩:=an h
 split at h
 ·rename_i hd
  have hd':∀d,o.dst=some d->d<A.n:=fun d e=>by rw [e] at hd; simpa [Pr] using hd
  split at h
  ·rename_i hg
   injection h with h; subst h
   exact ⟨hop,rfl,rfl,hd',.inl ⟨hg,rfl⟩⟩
  ·rename_i k want hg
   obtain ⟨t,ht,h⟩:=an h
   split at h
   ·rename_i hlt
    injection h with h; subst h
    exact ⟨hop,rfl,rfl,hd',.inr ⟨k,want,t,hg,rfl,ht,hlt⟩⟩
   ·cases h
 ·cases h
def qj {ops:Array Oper} {o:Oper} {x:aR} {env:Env} {M:ag} {j:J} {w:World} {a:Act} (he:aL j M w env a) (hs:a.tmps.size=A.n)
  (hg:(o.guard=none/\x.guard=none)\/∃k want t,o.guard=some (k,want)/\x.guard=some (t,want)/\(ops[k]?).bind (·.dst)=some t/\t<A.n)
  (h:∀t want,x.guard=some (t,want)->cL env t = .bool want):Region.wanted o (yielded ops a.tmps)=true:=by
 unfold Region.wanted
 rcases hg with ⟨h1,_⟩|⟨k,want,t,h1,h2,h3,h4⟩
 ·rw [h1]
 ·rw [h1]
  have hv:=he.at' t
  rw [h t want h2] at hv
  have hv:=hv.df
  have hlt:t<a.tmps.size:=by omega
  have ht:a.tmps[t]?=some (.bool want):=by
   rw [Array.getElem?_eq_getElem hlt]
   simpa [Array.getD,hlt] using hv
  simp [yielded,h3,ht]
def xR {ops:Array Oper} {o:Oper} {x:aR} {env:Env} {M:ag} {j:J} {w:World} {a:Act} (he:aL j M w env a) (hs:a.tmps.size=A.n)
  (hg:(o.guard=none/\x.guard=none)\/∃k want t,o.guard=some (k,want)/\x.guard=some (t,want)/\(ops[k]?).bind (·.dst)=some t/\t<A.n)
  {t:Nat} {want:Bool} (hx:x.guard=some (t,want)) (h:cL env t = .bool (!want)\/cL env t = .tuple []):Region.wanted o (yielded ops a.tmps)=false:=by
 unfold Region.wanted
 rcases hg with ⟨_,h1⟩|⟨k,want',t',h1,h2,h3,h4⟩
 ·rw [h1] at hx; cases hx
 ·rw [h2] at hx
  injection hx with hx
  injection hx with e1 e2
  subst e1; subst e2
  rw [h1]
  have hv:=he.at' t'
  have hlt:t'<a.tmps.size:=by omega
  have hget:a.tmps[t']?=some (a.tmps.getD t' undef):=by rw [Array.getElem?_eq_getElem hlt]; simp [Array.getD,hlt]
  rcases h with h|h
  ·rw [h] at hv
   rw [hv.df] at hget
   cases want'<;>simp [yielded,h3,hget]
  ·rw [h] at hv
   obtain ⟨vs,hvs,hl,_⟩:=hv.kD
   rw [hvs] at hget
   simp [yielded,h3,hget]
def wF {x:aR} {env:Env} {M:ag} {y:ae×ag} (h:fV C x env M=some y):bd C env M x.op=some y:=by
 rcases js h with ⟨_,_,h⟩|⟨_,_,h⟩|⟨_,_,_,h⟩<;>exact h
def jj:O9->Exit
 | .normal => .normal
 | .exit i => .exit i
 | .ret => .ret
 | .fK v => .panic [{ v,recovered:=false }]
def bQ.CG {j:J} {M:ag} {w:World} {u v:Value} (h:bQ j M w (.fK u) v):False:=by
 cases h with
 |plain h=>cases h
def aL.nil {j j':J} {M M':ag} {w w':World} {env:Env} {a:Act} (h:aL j M w env a) (hx:Ext j M w j' M' w'):aL j' M' w' [] a:=⟨fun _ => .any _,h.gl.mono hx⟩
def o9 (hC:hU P C) {r:Option Nat} {n:Nat} {ops:Array Oper} {Q:Exit->Act->World->Prop}:∀ {grow:List Bool} (l:List Oper) (k:Nat),ops.toList.drop k=l->∀ {al:List aR},j5 P A ops grow l=some al ->
  ∀ {env:Env} {M:ag} {x:Out},bN C al env M=some x->∀ {j:J} {w:World} {a:Act},Rel j M w->j4 j M w->aL j M w env a->a.tmps.size=A.n ->
  (∀a' w' j',Rel j' x.mem w'->aL j' x.mem w' x.env a'->Ext j M w j' x.mem w'->a'.tmps.size=A.n->a'.defers=a.defers->Q (jj x.e) a' w')->wpOpsIn (Wd r) n P ops Q (List.range' k l.length) a w
 |grow,[],k,hk,al,hal,env,M,x,hx,j,w,a,hr,hG,he,hs,hQ=>by
  simp only [j5] at hal; injection hal with hal; subst hal
  simp only [bN] at hx; injection hx with hx; subst hx
  exact hQ a w j hr he (Ext.refl j M w) hs rfl
 |grow,o::rs,k,hk,al,hal,env,M,x,hx,j,w,a,hr,hG,he,hs,hQ=>by
  simp only [j5] at hal
  obtain ⟨xo,hxo,hal⟩:=an hal
  obtain ⟨xr,hxr,hal⟩:=an hal
  injection hal with hal; subst hal
  obtain ⟨h1,h2,h3,h4,h5⟩:=rV hxo
  have hko:ops[k]?=some o:=by
   have:(ops.toList.drop k)[0]?=some o:=by rw [hk]; rfl
   rw [List.getElem?_drop] at this
   simpa using this
  have hkr:ops.toList.drop (k+1)=rs:=by
   rw [<-List.drop_drop,hk]; rfl
  simp only [List.length_cons,List.range'_succ,wpOpsIn,hko]
  rcases gS hx with ⟨y,g1,g2,⟨hnp,g3⟩|⟨u0,_,g3,rfl⟩⟩|⟨t,want,g1,g2,g3⟩
  ·rw [if_pos (qj he hs h5 g1)]
   refine kG.wpIn (KP:=fun _ _=>False) (rp h1) (vG hC h1 (wF g2) hr hG he ?_ ?_) fun u w' h=>h.elim
   ·rintro v w' ⟨j',q1,q2,q3⟩
    refine o9 hC rs (k+1) hkr hxr (x:=x) (by rw [<-h2]; exact g3) q1 (hG.mono q2) ((he.mono q2).put hs h4 (by exact q3)) (by rw [oy]; exact hs) fun a' w'' j'' p1 p2 p3 p4 p5=>?_
    exact hQ a' w'' j'' p1 p2 (q2.trans p3) p4 (p5.trans (put_defers _ _ _))
   ·rintro u w' ⟨hu,_⟩
    rw [hu] at hnp; cases hnp
  ·rw [if_pos (qj he hs h5 g1)]
   refine kG.wpIn (KP:=fun u w'=>u=u0/\∃j',Rel j' y.2 w'/\Ext j M w j' y.2 w') (rp h1) (vG hC h1 (wF g2) hr hG he ?_ ?_) ?_
   ·rintro v w' ⟨j',q1,q2,q3⟩
    rw [g3] at q3
    exact q3.CG.elim
   ·rintro u w' ⟨hu,h⟩
    rw [g3] at hu; injection hu with hu
    exact ⟨hu.symm,h⟩
   ·rintro u w' ⟨rfl,j',q1,q2⟩
    exact hQ a w' j' q1 (he.nil q2) q2 hs rfl
  ·rw [if_neg (by rw [xR he hs h5 g1 g2]; simp)]
   refine ⟨fun _ _=>trivial,?_⟩
   refine o9 hC rs (k+1) hkr hxr (x:=x) (by rw [<-h2]; exact g3) hr hG (he.put hs h4 (.tuple (vs := #[]) rfl fun i c v h=>by simp at h)) (by rw [oy]; exact hs) fun a' w'' j'' p1 p2 p3 p4 p5=>?_
   exact hQ a' w'' j'' p1 p2 p3 p4 (p5.trans (put_defers _ _ _))
def qa {acc:List Nat} {i:Nat}:∀ {es:List Edge},(lU acc es).testBit i=true->∃e,e∈es/\Region.binds .any e=true/\(e.on=i\/((nth acc e.on).getD 0).testBit i=true)
 | [],h=>by simp [lU] at h
 |e::r,h=>by
  rw [lU] at h
  split at h
  ·rename_i hb
   rw [Nat.testBit_or,Nat.testBit_or,Bool.or_eq_true,Bool.or_eq_true] at h
   rcases h with h|h|h
   ·obtain ⟨e',h1,h2,h3⟩:=qa h
    exact ⟨e',by simp [h1],h2,h3⟩
   ·rw [Nat.testBit_two_pow] at h
    exact ⟨e,by simp,hb,.inl (by simpa using h)⟩
   ·exact ⟨e,by simp,hb,.inr h⟩
  ·obtain ⟨e',h1,h2,h3⟩:=qa h
   exact ⟨e',by simp [h1],h2,h3⟩
def uL:∀(l:List Oper) (acc:List Nat),acc <+: qO l acc/\∀(m:Nat) (o:Oper),l[m]?=some o->(qO l acc)[acc.length+m]?=some (lU ((qO l acc).take (acc.length+m)) o.after.toList)
 | [],acc=>⟨List.prefix_refl _,fun m o h=>by simp at h⟩
 |p::r,acc=>by
  rw [qO]
  obtain ⟨h1,h2⟩:=uL r (acc++[lU acc p.after.toList])
  have h3:acc <+: qO r (acc++[lU acc p.after.toList]):=(List.prefix_append _ _).trans h1
  refine ⟨h3,fun m o hm=>?_⟩
  cases m with
  |zero =>
   simp at hm; subst hm
   obtain ⟨t,ht⟩:=h1
   have htake:(qO r (acc++[lU acc p.after.toList])).take acc.length=acc:=by
    rw [<-ht,List.append_assoc,List.take_left']
    rfl
   rw [Nat.add_zero,htake,<-ht]
   simp
  |succ m =>
   have:=h2 m o (by simpa using hm)
   simp only [List.length_append,List.length_cons,List.length_nil] at this
   rw [show acc.length+(m+1)=acc.length+(0+1)+m by omega]
   exact this
def uE {ops:List Oper} {i k:Nat} {o:Oper} (hk:ops[k]?=some o) (hlt:∀e,e∈o.after.toList->Region.binds .any e=true->e.on<k) (h:ahead (iK ops) i k=true) :
  ∃e,e∈o.after.toList/\Region.binds .any e=true/\e.on<k/\(e.on=i\/ahead (iK ops) i e.on=true):=by
 have h1:=(uL ops []).2 k o hk
 simp only [List.length_nil,Nat.zero_add] at h1
 unfold ahead at h
 rw [bE,show iK ops=qO ops [] from rfl,h1] at h
 obtain ⟨e,h2,h3,h4⟩:=qa h
 have h5:=hlt e h2 h3
 refine ⟨e,h2,h3,h5,h4.imp id fun h=>?_⟩
 rw [bE,List.getElem?_take_of_lt h5] at h
 unfold ahead
 rw [bE]
 exact h
def Down (ops:Array Oper) (L:Nat->Bool):Prop:=∀(k:Nat) (o:Oper) (e:Edge),ops[k]?=some o->L k=true->e∈o.after.toList->Region.binds .any e=true->L e.on=true
def uF {ops:Array Oper} {L:Nat->Bool} (hd:Down ops L) (hlt:∀(k:Nat) (o:Oper) (e:Edge),ops[k]?=some o->e∈o.after.toList->Region.binds .any e=true->e.on<k) :
  ∀(k:Nat) {i:Nat},ahead (iK ops.toList) i k=true->k<ops.size->L k=true->L i=true:=by
 intro k
 induction k using Nat.strongRecOn with
 |_ k ih =>
  intro i h hk hL
  have ho:ops[k]?=some ops[k]:=Array.getElem?_eq_getElem hk
  obtain ⟨e,h1,h2,h3,h4⟩:=uE (ops:=ops.toList) (o:=ops[k]) (by simp) (fun e h1 h2=>hlt k _ e ho h1 h2) h
  have h5:=hd k _ e ho hL h1 h2
  rcases h4 with rfl|h4
  ·exact h5
  ·exact ih e.on h3 h4 (by omega) h5
def zo {ops:Array Oper} {L:Nat->Bool} (hd:Down ops L) (hlt:∀(k:Nat) (o:Oper) (e:Edge),ops[k]?=some o->e∈o.after.toList->Region.binds .any e=true->e.on<k)
  {k i:Nat} {o:Oper} (ho:ops[k]?=some o) (hr:∀e,e∈o.after.toList->Region.binds .any e=true->L e.on=true) (h:ahead (iK ops.toList) i k=true):L i=true:=by
 have hk:k<ops.size:=(Array.getElem?_eq_some_iff.1 ho).1
 obtain ⟨e,h1,h2,h3,h4⟩:=uE (ops:=ops.toList) (o:=o) (by simpa using ho) (fun e h1 h2=>hlt k _ e ho h1 h2) h
 have h5:=hr e h1 h2
 rcases h4 with rfl|h4
 ·exact h5
 ·exact uF hd hlt e.on h4 (by omega) h5
def aJ {env env':Env} {x:cj} (h:∀t,t∈x.eH->cL env t=cL env' t):x.ev env=x.ev env':=by
 cases x with
 |tmp t=>exact h t (by simp [cj.eH])
 |dX v=>rfl
def gy {env env':Env}:∀ {l:List cj},(∀t,t∈l.flatMap cj.eH->cL env t=cL env' t)->∀x,x∈l->x.ev env=x.ev env':=fun h x hx =>
 aJ fun t ht=>h t (List.mem_flatMap.2 ⟨x,hx,ht⟩)
def jM {env env':Env} {n:Nat} {x:Option cj} (h:∀t,t∈sJ x->cL env t=cL env' t):bO env n x=bO env' n x:=by
 cases x with
 |none=>rfl
 |some x=>unfold bO; simp only; rw [aJ (x:=x) h]
def u6 {env env':Env}:∀ {ps:List (Nat×Nat×cj)} {cs:List ae},(∀p,p∈ps->p.2.2.ev env=p.2.2.ev env')->eP env cs ps=eP env' cs ps
 | [],cs,_=>rfl
 |(off,n,x)::r,cs,h=>by
  unfold eP
  rw [h (off,n,x) (by simp)]
  congr 1
  funext new
  split
  ·exact u6 fun p hp=>h p (by simp [hp])
  ·rfl
def p8 {env env':Env} {sz:Nat}:∀ {ps:List cj},(∀p,p∈ps->p.ev env=p.ev env')->j8 env sz ps=j8 env' sz ps
 | [],_=>rfl
 |x::r,h=>by
  unfold j8
  rw [h x (by simp),p8 (ps:=r) fun p hp=>h p (by simp [hp])]
def wD {env env':Env} {M:ag} {op:dS} (h:∀t,t∈op.eH->cL env t=cL env' t):bd C env M op=bd C env' M op/\op.bh env=op.bh env':=by
 cases op<;>simp only [dS.eH,List.mem_append] at h
 case mv x=>simp [bd,dS.bh,aJ h]
 case own n x=>simp [bd,dS.bh,aJ h]
 case pick c x y=>simp [bd,dS.bh,aJ (x:=c) fun t ht=>h t (.inl ht),aJ (x:=x) fun t ht=>h t (.inr (.inl ht)),aJ (x:=y) fun t ht=>h t (.inr (.inr ht))]
 case ib cs=>simp [bd,dS.bh]
 case box x=>simp [bd,dS.bh,aJ h]
 case BK t e l=>simp [bd,dS.bh]
 case BL t e x=>simp [bd,dS.bh,aJ h]
 case T7 x=>simp [bd,dS.bh,aJ h]
 case uN f l =>
  have:(l.map fun x=>(x.ev env).bS)=l.map fun x=>(x.ev env').bS:=List.map_congr_left fun x hx=>by rw [gy h x hx]
  simp only [bd,dS.bh,this,and_self]
 case build z ps=>simp [bd,dS.bh,u6 (ps:=ps) fun p hp=>aJ fun t ht=>h t (List.mem_flatMap.2 ⟨p,hp,ht⟩)]
 case lits n ps=>simp [bd,dS.bh,p8 (ps:=ps) (gy h)]
 case vt n ps=>simp [bd,dS.bh,p8 (ps:=ps) (gy h)]
 case eG n x=>simp [bd,dS.bh,aJ h]
 case cB x=>simp [bd,dS.bh,aJ h]
 case store n x y=>simp [bd,dS.bh,aJ (x:=x) fun t ht=>h t (.inl ht),aJ (x:=y) fun t ht=>h t (.inr ht)]
 case sW sz p n x y=>simp [bd,dS.bh,aJ (x:=x) fun t ht=>h t (.inl ht),aJ (x:=y) fun t ht=>h t (.inr ht)]
 case MH x=>simp [bd,dS.bh,aJ h]
 case bin b x y=>simp [bd,dS.bh,aJ (x:=x) fun t ht=>h t (.inl ht),aJ (x:=y) fun t ht=>h t (.inr ht)]
 case MS ks n x y=>simp [bd,dS.bh,aJ (x:=x) fun t ht=>h t (.inl ht),aJ (x:=y) fun t ht=>h t (.inr ht)]
 case QY n x y=>simp [bd,dS.bh,aJ (x:=x) fun t ht=>h t (.inl ht),aJ (x:=y) fun t ht=>h t (.inr ht)]
 case not x=>simp [bd,dS.bh,aJ h]
 case neg x=>simp [bd,dS.bh,aJ h]
 case conv k x=>simp [bd,dS.bh,aJ h]
 case same x=>simp [bd,dS.bh,aJ h]
 case fn f l=>simp only [bd,dS.bh,List.map_congr_left (gy h),and_self]
 case oB x lo hi =>
  simp only [bd,dS.bh,aJ (x:=x) fun t ht=>h t (.inl ht),jM (env:=env) (env':=env') (x:=lo) fun t ht=>h t (.inr (.inl ht)),and_true]
  split
  ·rw [jM (x:=hi) fun t ht=>h t (.inr (.inr ht))]
  ·rfl
 case qh n x lo hi mx =>
  simp only [bd,dS.bh,aJ (x:=x) fun t ht=>h t (.inl ht),jM (env:=env) (env':=env') (x:=lo) fun t ht=>h t (.inr (.inl ht)),and_true]
  split
  ·rw [jM (x:=hi) fun t ht=>h t (.inr (.inr (.inl ht)))]
   cases mx with
   |none=>rfl
   |some m=>simp only [aJ (x:=m) fun t ht=>h t (.inr (.inr (.inr ht)))]
  ·rw [jM (x:=hi) fun t ht=>h t (.inr (.inr (.inl ht)))]
   cases mx with
   |none=>rfl
   |some m=>simp only [aJ (x:=m) fun t ht=>h t (.inr (.inr (.inr ht)))]
  ·rfl
 case cX n x=>simp [bd,dS.bh,aJ h]
 case se p n x=>simp [bd,dS.bh,aJ h]
 case sd p x=>simp [bd,dS.bh,aJ h]
 case mq n x y=>simp [bd,dS.bh,aJ (x:=x) fun t ht=>h t (.inl ht),aJ (x:=y) fun t ht=>h t (.inr ht)]
 case nW m n x y=>simp [bd,dS.bh,aJ (x:=x) fun t ht=>h t (.inl ht),aJ (x:=y) fun t ht=>h t (.inr ht)]
 case nY n x y=>simp [bd,dS.bh,aJ (x:=x) fun t ht=>h t (.inl ht),aJ (x:=y) fun t ht=>h t (.inr ht)]
 case kc e x y=>simp [bd,dS.bh,aJ (x:=x) fun t ht=>h t (.inl ht),aJ (x:=y) fun t ht=>h t (.inr ht)]
 case lr e x y=>simp [bd,dS.bh,aJ (x:=x) fun t ht=>h t (.inl ht),aJ (x:=y) fun t ht=>h t (.inr ht)]
 case nZ x y=>simp [bd,dS.bh,aJ (x:=x) fun t ht=>h t (.inl ht),aJ (x:=y) fun t ht=>h t (.inr ht)]
 case extract x i=>simp [bd,dS.bh,aJ h]
 case call f l =>
  have:(l.map fun x=>(x.ev env).bS)=l.map fun x=>(x.ev env').bS:=List.map_congr_left fun x hx=>by rw [gy h x hx]
  simp only [bd,dS.bh,this,and_self]
 case nr f l =>
  have:(l.map fun x=>(x.ev env).bS)=l.map fun x=>(x.ev env').bS:=List.map_congr_left fun x hx=>by rw [gy (fun t ht=>h t (.inr ht)) x hx]
  simp only [bd,dS.bh,this,aJ (x:=f) fun t ht=>h t (.inl ht),and_self]
 case tn f l=>simp only [bd,dS.bh,List.map_congr_left (gy h),and_self]
 case nq f l =>
  have:(l.map fun x=>(x.ev env).bS)=l.map fun x=>(x.ev env').bS:=List.map_congr_left fun x hx=>by rw [gy h x hx]
  simp only [bd,dS.bh,this,and_self]
 case rZ n z x=>simp [bd,dS.bh,aJ h]
 case eh f l =>
  have h1:(l.map fun x=>((x.ev env).mY M).bS)=l.map fun x=>((x.ev env').mY M).bS:=List.map_congr_left fun x hx=>by rw [gy h x hx]
  have h2:l.map (cj.ev env)=l.map (cj.ev env'):=List.map_congr_left (gy h)
  simp only [bd,dS.bh,h1,h2,and_self]
 case Fm x=>simp [bd,dS.bh,aJ h]
 case vr x=>simp [bd,dS.bh,aJ h]
 case append n b x y=>simp [bd,dS.bh,aJ (x:=x) fun t ht=>h t (.inl ht),aJ (x:=y) fun t ht=>h t (.inr ht)]
 case T1 x=>simp [bd,dS.bh,aJ h]
 case mkMap=>simp [bd,dS.bh]
 case look fk z ok x y=>simp [bd,dS.bh,aJ (x:=x) fun t ht=>h t (.inl ht),aJ (x:=y) fun t ht=>h t (.inr ht)]
 case bX fk c x y=>simp [bd,dS.bh,aJ (x:=c) fun t ht=>h t (.inl ht),aJ (x:=x) fun t ht=>h t (.inr (.inl ht)),aJ (x:=y) fun t ht=>h t (.inr (.inr ht))]
 case Fl x=>simp [bd,dS.bh,aJ h]
 case FY x=>simp [bd,dS.bh,aJ h]
 case xz x=>simp [bd,dS.bh,aJ h]
 case qe m x y=>simp [bd,dS.bh,aJ (x:=x) fun t ht=>h t (.inl ht),aJ (x:=y) fun t ht=>h t (.inr ht)]
 case oO a b c x y=>simp [bd,dS.bh,aJ (x:=x) fun t ht=>h t (.inl ht),aJ (x:=y) fun t ht=>h t (.inr ht)]
 case wL a x y=>simp [bd,dS.bh,aJ (x:=x) fun t ht=>h t (.inl ht),aJ (x:=y) fun t ht=>h t (.inr ht)]
 case Ey a=>simp [bd,dS.bh]
 case SO z x=>simp [bd,dS.bh,aJ h]
 case Fw z x=>simp [bd,dS.bh,aJ h]
 case iface t x=>simp [bd,dS.bh,aJ h]
 case raise x=>simp [bd,dS.bh,aJ h]
def kf {f:Nat} {vs:List ae} {M:ag} {x:ae×ag} (h:ak C f vs M=some x) (hn:vs.flatMap ae.ids=[]):x.2=M/\∀M2,ak C f vs M2=some (x.1,M2):=by
 have hre:∀M,reach M []=[]:=fun M=>rfl
 unfold ak at h
 rw [hn,hre] at h
 split at h
 ·rename_i hf
  obtain ⟨B,hB,h⟩:=au h
  simp only [dv] at hB
  injection hB with hB; subst hB
  split at h
  ·obtain ⟨y,hy,h⟩:=au h
   split at h
   ·rename_i hc
    injection h with h; subst h
    have hy2:y.2=[]:=List.eq_nil_of_length_eq_zero hc.1
    refine ⟨by simp [hy2,eJ],fun M2=>?_⟩
    unfold ak
    rw [hn,hre,if_pos hf]
    simp only [dv,aE]
    rw [if_pos (show ep M2 []=[] from rfl),hy,aE,if_pos hc,hy2]
    simp [eJ]
   ·cases h
  ·cases h
 ·cases h
def zp {op:dS} (hc:op.oa=true) {env:Env} {M:ag} {x:ae×ag} (h:bd C env M op=some x) (hn:op.bh env=[]):x.2=M/\∀M2,bd C env M2 op=some (x.1,M2):=by
 cases op<;>simp only [dS.oa,Bool.false_eq_true] at hc
 case call f l =>
  simp only [bd,dS.bh] at h hn ⊢
  exact kf h hn
 case nr f l =>
  simp only [bd,dS.bh] at h hn ⊢
  split at h
  ·rename_i g caps hg
   rw [hg] at hn
   simp only at hn
   exact kf h hn
  ·rename_i g fs hg
   rw [hg] at hn
   simp only at hn
   exact kf h hn
  ·rename_i rv hg
   rw [hg] at hn
   split at h
   ·simp only at hn
    exact kf h hn
   ·cases h
  ·cases h
def DY {op:dS} (he:op.IM=false) (hl:op.Gl=false) {env:Env} {M:ag} {x:ae×ag} (h:bd C env M op=some x):x.2=M/\∀M2,bd C env M2 op=some (x.1,M2):=by
 cases op<;>simp only [dS.IM,dS.Gl,reduceCtorEq] at he hl<;>simp only [bd] at h ⊢
 case oB y lo hi =>
  split at h
  ·rename_i s e
   obtain ⟨hh,h1,h⟩:=au h
   obtain ⟨l,h2,h⟩:=au h
   obtain ⟨hp,h⟩:=aP h
   injection h with h; subst h
   exact ⟨rfl,fun M2=>by simp only [h1,h2,aE]; exact aM hp⟩
  ·cases h
 case qh n y lo hi mx =>
  split at h
  ·rename_i tk xs e
   obtain ⟨hw,h⟩:=aP h
   obtain ⟨hh,h1,h⟩:=au h
   obtain ⟨l,h2,h⟩:=au h
   split at h
   ·obtain ⟨hp,h⟩:=aP h
    injection h with h; subst h
    exact ⟨rfl,fun M2=>by rw [aM hw]; simp only [h1,h2,aE]; exact aM hp⟩
   ·split at h
    ·rename_i k m em
     obtain ⟨hp,h⟩:=aP h
     rcases dw h with ⟨hb,h⟩|⟨hb,h⟩<;>(injection h with h; subst h)
     ·exact ⟨rfl,fun M2=>by rw [aM hw]; simp only [h1,h2,aE,hb,jc]; exact aM hp⟩
     ·exact ⟨rfl,fun M2=>by rw [aM hw]; simp only [h1,h2,aE,hb,gV]; exact aM hp⟩
    ·cases h
  ·rename_i id v0 sz' al ah e
   obtain ⟨hw,h⟩:=aP h
   obtain ⟨hh,h1,h⟩:=au h
   obtain ⟨l,h2,h⟩:=au h
   split at h
   ·obtain ⟨hp,h⟩:=aP h
    rcases dw h with ⟨hb,h⟩|⟨hb,h⟩<;>(injection h with h; subst h)
    ·exact ⟨rfl,fun M2=>by rw [aM hw]; simp only [h1,h2,aE,hb,jc]; exact aM hp⟩
    ·exact ⟨rfl,fun M2=>by rw [aM hw]; simp only [h1,h2,aE,hb,gV]; exact aM hp⟩
   ·split at h
    ·rename_i k m em
     obtain ⟨hp,h⟩:=aP h
     rcases dw h with ⟨hb,h⟩|⟨hb,h⟩
     ·injection h with h; subst h
      exact ⟨rfl,fun M2=>by rw [aM hw]; simp only [h1,h2,aE,hb,jc]; exact aM hp⟩
     ·rcases dw h with ⟨hb2,h⟩|⟨hb2,h⟩<;>(injection h with h; subst h)
      ·exact ⟨rfl,fun M2=>by rw [aM hw]; simp only [h1,h2,aE,hb,hb2,jc,gV]; exact aM hp⟩
      ·exact ⟨rfl,fun M2=>by rw [aM hw]; simp only [h1,h2,aE,hb,hb2,gV]; exact aM hp⟩
    ·cases h
  ·cases h
 case mq n y i =>
  split at h
  ·obtain ⟨hp,h⟩:=aP h
   obtain ⟨e,h1,h⟩:=au h
   split at h
   ·rename_i hw
    injection h with h; subst h
    exact ⟨rfl,fun M2=>by rw [aM hp,h1,aE,if_pos hw]⟩
   ·cases h
  ·obtain ⟨hp,h⟩:=aP h
   injection h with h; subst h
   exact ⟨rfl,fun M2=>by rw [aM hp]⟩
  ·cases h
 case nW m n y i =>
  split at h
  ·obtain ⟨hp,h⟩:=aP h
   injection h with h; subst h
   exact ⟨rfl,fun M2=>by rw [aM hp]⟩
  ·obtain ⟨hp,h⟩:=aP h
   injection h with h; subst h
   exact ⟨rfl,fun M2=>by rw [aM hp]⟩
  ·cases h
 case nY n y i =>
  split at h
  ·obtain ⟨hp,h⟩:=aP h
   obtain ⟨e,h1,h⟩:=au h
   injection h with h; subst h
   exact ⟨rfl,fun M2=>by rw [aM hp,h1,aE]⟩
  ·cases h
 case uN f l =>
  split at h
  ·rename_i hp
   injection h with h; subst h
   exact ⟨rfl,fun M2=>by rw [if_pos hp]⟩
  ·cases h
 case nZ y i =>
  split at h
  ·obtain ⟨hp,h⟩:=aP h
   obtain ⟨e,h1,h⟩:=au h
   injection h with h; subst h
   exact ⟨rfl,fun M2=>by rw [aM hp,h1,aE]⟩
  ·cases h
 case pick c y z =>
  split at h
  ·rcases dw h with ⟨rfl,h⟩|⟨rfl,h⟩<;>(injection h with h; subst h; exact ⟨rfl,fun _=>rfl⟩)
  ·cases h
 case lits n ps =>
  obtain ⟨l,h1,h⟩:=au h
  injection h with h; subst h
  exact ⟨rfl,fun M2=>by rw [h1,aE]⟩
 case iface t y =>
  split at h
  ·injection h with h; subst h
   exact ⟨rfl,fun M2=>rfl⟩
  ·obtain ⟨v,hv,h⟩:=au h
   injection h with h; subst h
   exact ⟨rfl,fun M2=>by rw [hv]; rfl⟩
 case SO z y =>
  split at h
  ·obtain ⟨hp,h⟩:=aP h
   injection h with h; subst h
   exact ⟨rfl,fun M2=>aM hp⟩
  ·cases h
 case raise y =>
  split at h
  ·split at h
   ·injection h with h; subst h
    exact ⟨rfl,fun M2=>rfl⟩
   ·cases h
  ·cases h
 all_goals first
  |(injection h with h; subst h; exact ⟨rfl,fun _=>rfl⟩)
  |(obtain ⟨_,ha,h⟩:=au h; injection h with h; subst h; exact ⟨rfl,fun _=>by rw [ha]; rfl⟩)
  |(split at h<;>first
    |(injection h with h; subst h; exact ⟨rfl,fun _=>rfl⟩)
    |(obtain ⟨_,ha,h⟩:=au h; injection h with h; subst h; exact ⟨rfl,fun _=>by rw [ha]; rfl⟩)
    |cases h
    |(split at h<;>first
      |(rename_i hc; injection h with h; subst h; exact ⟨rfl,fun _=>by rw [if_pos hc]⟩)
      |cases h))
def AW {M M2:ag} {id:Nat} {b:aK} (hp:M <+: M2\/M2 <+: M) (hid:id<M2.length) (hb:nth M id=some b):nth M2 id=some b:=by
 rw [bE] at hb ⊢
 rcases hp with ⟨t,rfl⟩|⟨t,rfl⟩
 ·rw [List.getElem?_append_left (aj hb)]; exact hb
 ·rw [List.getElem?_append_left hid] at hb; exact hb
def AE {op:dS} (hl:op.Gl=true) {env:Env} {M:ag} {x:ae×ag} (h:bd C env M op=some x):x.2=M /\
  ∀ {M2:ag} (z:cj),(∀id b,id∈(z.ev env).cm->id<M2.length->nth M id=some b->nth M2 id=some b)->∀ {j:J} {w:World} {v:Value},(op = .cB z\/(∃n,op = .eG n z)\/∃fk zr ok k,op = .look fk zr ok z k)->bQ j M2 w (z.ev env) v->bd C env M2 op=some (x.1,M2):=by
 cases op<;>simp only [dS.Gl,Bool.false_eq_true] at hl
 case eG n y =>
  simp only [bd] at h ⊢
  split at h
  ·rename_i id off e
   split at h
   ·rename_i cs hM
    split at h
    ·rename_i hle
     injection h with h; subst h
     refine ⟨rfl,fun {M2} z hp {j w v} hz hr=>?_⟩
     have:z=y:=by rcases hz with hz|⟨n',hz⟩|⟨_,_,_,_,hz⟩<;>cases hz<;>rfl
     subst this
     rw [e] at hr
     obtain ⟨b,hid,_⟩:=hr.gW
     rw [hp _ _ (by rw [e]; simp [ae.cm]) hid hM]
     simp only
     rw [if_pos hle]
    ·cases h
   ·cases h
  ·split at h
   ·rename_i cs e hle
    injection h with h; subst h
    refine ⟨rfl,fun {M2} z hp {j w v} hz hr=>?_⟩
    rw [if_pos hle]
   ·cases h
  ·rename_i id ver i off e
   split at h
   ·rename_i sz v0 xs hM
    split at h
    ·rename_i hv0
     obtain ⟨el,hel,h⟩:=au h
     split at h
     ·rename_i hle
      injection h with h; subst h
      refine ⟨rfl,fun {M2} z hp {j w v} hz hr=>?_⟩
      have:z=y:=by rcases hz with hz|⟨n',hz⟩|⟨_,_,_,_,hz⟩<;>cases hz<;>rfl
      subst this
      rw [e] at hr
      obtain ⟨_,hid,_⟩:=hr.jQ
      rw [hp _ _ (by rw [e]; simp [ae.cm]) hid hM]
      simp only [hel,aE]
      rw [if_pos hv0,if_pos hle]
     ·cases h
    ·cases h
   ·cases h
  ·cases h
 case cB y =>
  simp only [bd] at h ⊢
  split at h
  ·rename_i id off e
   split at h
   ·rename_i cs hM
    obtain ⟨c,hc,h⟩:=au h
    injection h with h; subst h
    refine ⟨rfl,fun {M2} z hp {j w v} hz hr=>?_⟩
    have:z=y:=by rcases hz with hz|⟨n',hz⟩|⟨_,_,_,_,hz⟩<;>cases hz<;>rfl
    subst this
    rw [e] at hr
    obtain ⟨b,hid,_⟩:=hr.gW
    rw [hp _ _ (by rw [e]; simp [ae.cm]) hid hM]
    simp only [hc,aE]
   ·cases h
  ·obtain ⟨c,hc,h⟩:=au h
   injection h with h; subst h
   exact ⟨rfl,fun {M2} hp {j w v} z hz hr=>by simp only [hc,aE]⟩
  ·rename_i id ver i off e
   split at h
   ·rename_i sz v0 xs hM
    split at h
    ·rename_i hv0
     obtain ⟨el,hel,h⟩:=au h
     obtain ⟨c,hc,h⟩:=au h
     injection h with h; subst h
     refine ⟨rfl,fun {M2} z hp {j w v} hz hr=>?_⟩
     have:z=y:=by rcases hz with hz|⟨n',hz⟩|⟨_,_,_,_,hz⟩<;>cases hz<;>rfl
     subst this
     rw [e] at hr
     obtain ⟨_,hid,_⟩:=hr.jQ
     rw [hp _ _ (by rw [e]; simp [ae.cm]) hid hM]
     simp only [hel,hc,aE]
     rw [if_pos hv0]
    ·cases h
   ·cases h
  ·cases h
 case look fk zr ok y k =>
  simp only [bd] at h ⊢
  obtain ⟨e,he,h⟩:=au h
  obtain ⟨r,hr',h⟩:=au h
  injection h with h; subst h
  refine ⟨rfl,fun {M2} z hp {j w v} hz hr=>?_⟩
  have:z=y:=by rcases hz with hz|⟨n',hz⟩|⟨_,_,_,_,hz⟩<;>cases hz<;>rfl
  subst this
  have:mapOf M2 (z.ev env)=some e:=by
   unfold mapOf at he ⊢
   split at he
   ·rename_i id e0
    rw [e0] at hr
    obtain ⟨b,⟨ks,vs,hm⟩,_⟩:=hr.mB
    split at he
    ·rename_i ks' vs' hM
     rw [hp _ _ (by rw [e0]; simp [ae.cm]) (aj hm) hM]
     exact he
    ·cases he
   ·exact he
   ·cases he
  rw [this,aE,hr',aE]
end
end
end Go.Abs
