import Derived.Test.YtcbopkblmebjiaaGreatDoorFtaD
set_option linter.all false
open Go.Proofs.Tryz
namespace Go.Abs
open Go
variable [jw]
def Un{a:Act}{d:Option Nat}{v:Value}{t:Nat}(h:d≠some t):(a.put d v).tmps.getD t undef=a.tmps.getD t undef:=by
 cases d with
 |none=>rfl
 |some s =>
  have hne:s≠t:=fun e=>h (by rw[e])
  simp[Act.put,du,fi hne]
def Rm{F:Fence}{n:Nat}{P:Program}{ops:Array Oper}{Q:Exit->Act->World->Prop}{ks:List Nat}{v0:Nat->Value}:∀(l:List Nat)(a:Act)(w:World),
  (∀i o,i∈l->ops[i]?=some o->∀t,t∈ks->o.dst≠some t)->(∀t,t∈ks->a.tmps.getD t undef=v0 t)->wpOpsIn F n P ops Q l a w->wpOpsIn F n P ops (fun e a' w'=>Q e a' w'/\(e = .outgrown\/∀t,t∈ks->a'.tmps.getD t undef=v0 t)) l a w:=by
 intro l;induction l with
 |nil=>exact fun a w _ hv h=>⟨h,.inr hv⟩
 |cons i rest ih =>
  intro a w hd hv h;have hd':∀i o,i∈rest->ops[i]?=some o->∀t,t∈ks->o.dst≠some t:=fun i o hi=>hd i o (aP _ hi)
  simp only[wpOpsIn] at h ⊢;cases ho:ops[i]? with
  |none=>rw[ho] at h; exact ih a w hd' hv h
  |some o =>
   rw[ho] at h;have hdo:=hd i o aG ho;have hp:∀(a:Act) v,(∀t,t∈ks->a.tmps.getD t undef=v0 t)->∀t,t∈ks->(a.put o.dst v).tmps.getD t undef=v0 t:=fun a v h t ht=>(Un (hdo t ht)).trans (h t ht)
   simp only at h ⊢;split at h
   ·rename_i hw;rw[av hw];refine⟨h.1,?_⟩;have h:=h.2;unfold Oper.uponIn at h ⊢;split at h
    ·exact ih _ _ hd' (hp _ _ hv) h
    ·exact ih _ _ hd' (hp _ _ hv) h
    ·exact ih _ _ hd' (hp _ _ hv) h
    ·refine⟨h.1,h.2.mono fun e w' h=>?_⟩
     cases e with
     |returned v=>exact ih _ _ hd' (hp _ _ hv) h
     |panicked c=>exact⟨h,.inr hv⟩
     |outgrown=>obtain⟨a1,w1,h⟩:=h; exact⟨a1,w1,h,.inl rfl⟩
    ·exact⟨h.1,h.2.mono fun v w' h=>ih _ _ hd' (hp _ _ hv) h⟩
    ·refine⟨h.1,h.2.mono fun e w' h=>?_⟩
     cases e with
     |returned v=>exact ih _ _ hd' (hp _ _ hv) h
     |panicked c=>exact⟨h,.inr hv⟩
     |outgrown=>obtain⟨a1,w1,h⟩:=h; exact⟨a1,w1,h,.inl rfl⟩
    ·exact⟨h,.inr hv⟩
    ·exact h.elim
   ·rename_i hw;rw[aj hw];exact⟨h.1,ih _ _ hd' (hp _ _ hv) h.2⟩
def B5(ks:List Nat)(bq:Env)(o:Out):Out:=match o.e with
 | .oU v=>⟨.oU v,jt bq ks,o.mem⟩
 |_=>o
noncomputable def vC(C:eO)(ks:List Nat):cD->Env->aO->Option Out
 | .seq x y,bq,M=>bP (vC C ks x bq M) fun o=>uU o (vC C ks y)
 | .region ops d live,bq,M=>bP (fe C (.region ops d live) bq M) fun o=>some (if d then o else B5 ks bq o)
 | .sZ t c,bq,M=>vC C ks c (Kt M t bq) (vm M (gW bq t).ids)
 |c,bq,M=>fe C c bq M
def H3(ks:List Nat):Code->Bool
 | .seq x y=>H3 ks x&&H3 ks y
 | .region _ ops _=>ops.toList.all fun o=>match o.dst with|some d => !ks.contains d|none=>true
 |_=>true
def I7{P:Program}{C:eO}{A:zi}(hmix:P.follows .mixedOrders=true)(hC:pC P C){rd:Option Nat}{nd:Nat}{ks:List Nat}:∀(c:Code){ac:cD},comp P A c=some ac->H3 ks c=true->∀ {bq:Env} {M:aO} {o:Out},vC C ks ac bq M=some o ->
  ∀ {j:J} {w:World} {a:Act},Rel j M w->sS j M w->cE j M w bq a->a.tmps.size=A.n->c.wpIn (Wd rd) nd P (Vl A j M w a o) a w:=by
 intro c;induction c with
 |seq x y ihx ihy =>
  intro ac hc hf bq M o h j w a hr hG he hs;simp only[comp] at hc;obtain⟨ax,hx,hc⟩:=bc hc;obtain⟨ay,hy,hc⟩:=bc hc;cases hc;simp only[H3,bm] at hf;simp only[vC] at h;obtain⟨o1,h1,h⟩:=bu h;refine wpIn_seq (wpIn_mono (ihx hx hf.1 h1 hr hG he hs) ?_);rintro e a1 w1 ⟨he1,hs1,hd1,j1,r1,e1,x1⟩;rcases ud h with ⟨hn,h2⟩|⟨hn,h2⟩
  ·rw[hn] at he1;subst he1;obtain⟨env',M',h3,r3,e3,x3⟩:=L7 (F:=vC C ks) (fun _ _ _ _=>rfl) h2 r1 e1
   refine wpIn_mono (ihy hy hf.2 h3 r3 (hG.mono (x1.trans x3)) e3 hs1) ?_;rintro e a2 w2 ⟨he2,hs2,hd2,j2,r2,e2,x2⟩;exact⟨he2,hs2,hd2.trans hd1,j2,r2,e2,(x1.trans x3).trans x2⟩
  ·subst h2;have:rV o.e ≠ .normal:=by cases ho:o.e<;>simp_all [rV]
   subst he1
   cases hx:rV o.e<;>first
    |exact absurd hx this
    |exact⟨hx.symm,hs1,hd1,j1,r1,e1,x1⟩
 |region id ops draw =>
  intro ac hc hf bq M o h j w a hr hG he hs;cases draw with
  |true =>
   have hc0:=hc;simp only[comp,aE] at hc;obtain⟨l0,hl0,hc⟩:=bc hc;obtain⟨l,hl,hc⟩:=bc hc;cases hc;simp only[vC,aE] at h;obtain⟨o1,h1,h⟩:=bu h;cases h;exact nk hmix hC _ hc0 h1 hr hG he hs
  |false =>
   have hc0:=hc;simp only[comp,af,aC] at hc;obtain⟨l,hl,hc⟩:=bc hc;cases hc;simp only[vC,af,aC] at h;obtain⟨o1,h1,h⟩:=bu h;cases h;simp only[fe] at h1;obtain⟨x,hx,h1⟩:=bu h1;cases h1
   have hdst:∀i o,i∈List.range ops.size->ops[i]?=some o->∀t,t∈ks->o.dst≠some t:=by
    intro i o _ hio t ht hd;simp only[H3,bF] at hf;have:=hf o (Array.mem_toList_iff.2 (Array.mem_of_getElem? hio));rw[hd] at this;simp[ht] at this
   refine wpIn_mono (wpIn_region (Rm (v0:=fun t=>a.tmps.getD t undef) _ a w hdst (fun _ _=>rfl) (by
    rw[nP];exact x5 hC (grow:=[]) ops.toList 0 dk hl hx hr hG he hs fun a' w' j' h1 h2 h3 h4 h5=>Bb (live:=find A.lv id) h1 h2 h3 h4 h5))) ?_
   rintro e a1 w1 ⟨⟨he1,hs1,hd1,j1,r1,e1,x1⟩,hk⟩;clear hx;generalize x.tv (find A.lv id)=y at he1 r1 e1 x1 ⊢;cases hye:y.e with
   |oU v =>
    have hp:B5 ks bq y=⟨.oU v,jt bq ks,y.mem⟩:=by unfold B5; rw[hye]
    rw[hp];have hk':=hk.resolve_left (by rw[he1,hye]; simp[rV])
    refine⟨by rw[he1,hye],hs1,hd1,j1,r1,⟨fun t=>?_,hG.mono x1⟩,x1⟩
    rw[yR];split
    ·rename_i ht;rw[hk' t ht];exact(he.at' t).mono x1
    ·exact .any _
   |normal =>
    have hp:B5 ks bq y=y:=by unfold B5; rw[hye]
    rw[hp]; exact⟨he1,hs1,hd1,j1,r1,e1,x1⟩
   |ret =>
    have hp:B5 ks bq y=y:=by unfold B5; rw[hye]
    rw[hp]; exact⟨he1,hs1,hd1,j1,r1,e1,x1⟩
   |exit i =>
    have hp:B5 ks bq y=y:=by unfold B5; rw[hye]
    rw[hp]; exact⟨he1,hs1,hd1,j1,r1,e1,x1⟩
 |_ =>
  intro ac hc hf bq M o h j w a hr hG he hs;refine nk hmix hC _ hc (o:=o) ?_ hr hG he hs;simp only[comp] at hc
  first
   |(cases hc; exact h)
   |(obtain⟨_,_,hc⟩:=bc hc; injection hc with hc; unfold IC at hc; split at hc<;>subst hc<;>exact h)
   |(obtain⟨_,_,hc⟩:=bc hc; cases hc; exact h)
   |(obtain⟨_,_,hc⟩:=bc hc; obtain⟨_,_,hc⟩:=bc hc; obtain⟨_,_,hc⟩:=bc hc; cases hc; exact h)
   |cases hc
end Go.Abs
namespace Go.Proofs.YtcbopkblmebjiaaGreatDoor
open Go Go.Abs
def Z2:List sm:=[.P3 2]
noncomputable def Cf(n k:Nat)(o:Out):Option (ag×aO) :=
 match o.e with
 | .ret=>bP (qb o.bq o.mem Z2) fun l=>some ((Abs.one l).mR n o.mem,j6 n o.mem)
 | .oU (.iface 34 (.int .i64 e)) =>
  match o.mem[k]? with
  |some (.cells [_])=>bP (qb o.bq (o.mem.set k (.cells [.int .i64 e])) Z2) fun l=>some ((Abs.one l).mR n (o.mem.set k (.cells [.int .i64 e])),j6 n (o.mem.set k (.cells [.int .i64 e])))
  |_=>none
 |_=>none
noncomputable def Fu:List ag->aO->Option (ag×aO):=fun args M =>
 if args.length=1 then
  bP (fe (aq fc) LN (km 0 args) M) fun o1 =>
  match o1.e,gW o1.bq 2 with
  | .normal,.ptr k 0=>bP (vC (aq fc) [2] Et (jt o1.bq [0,2]) o1.mem) fun o2=>Cf M.length k o2
  |_,_=>none
 else none
def Ln{args:List ag}{M:aO}{x:ag×aO}(h:Fu args M=some x):eZ Tryz.prog 44 args M x:=by
 unfold Fu at h;split at h
 rotate_left
 ·cases h
 rename_i fx;obtain⟨o1,ho1,h⟩:=bu h;split at h
 rotate_left
 ·cases h
 rename_i k hn1 hk1;obtain⟨o2,ho2,h⟩:=bu h;intro j w vs hr hG hvl hv;refine calls_of_wp_defers func44 rfl ?_;refine wp_seq ?_;have hsz:(vs++Array.replicate (Tryz.f44.ntmps-vs.size) undef).size=6:=by rw[ntmps44]; simp; omega
 have he:cE j M w (km 0 args) { tmps:=vs++Array.replicate (Tryz.f44.ntmps-vs.size) undef,defers:=[] }:=by
  refine⟨fun t=>?_,hG⟩
  rw[AN,av (ct _),cd];rcases bK t args.length with ht|ht
  ·have h1:=ai ht;have cA:t<vs.size:=aM;have h2:=bf cA;rw[h1];have h3:=hv t _ _ h1 h2
   have:(vs++Array.replicate (Tryz.f44.ntmps-vs.size) undef).getD t undef=vs[t]:=by
    simp[du,cy cA,h2]
   rw[this];exact h3
  ·rw[gQ ht]; exact .any _
 refine wp_mono (wpIn_wide.1 (nk (rd:=none) (nd:=0) gd UH Yn aiA ho1 hr hG he hsz)) ?_;rintro ex a1 w1 ⟨h1,h2,h3,j1,r1,e1,x1⟩;rw[hn1] at h1;simp only[rV] at h1;subst h1;simp only[Exit.then]
 refine wp_seq (wp_region ?_);obtain⟨t1,d1⟩:=a1;simp only at h2 h3;subst h3;have hmf:∀(fn:Fn)(first cap:Array Value)(w:World),(Instr.makeFunc fn first cap).run Tryz.prog w = .ok (.func fn first cap) w:=fun _ _ _ _=>rfl
 have h2':t1.size=6:=h2;have h9:3<t1.size:=aM;simp[wpOps,go_sem,Exit.then,hmf,h9,Array.getElem?_setIfInBounds,gX]
 repeat' refine Or.inl ?_
 have key:∀d:List Deferred,cE j1 o1.mem w1 (jt o1.bq [0,2]) { tmps:=t1.setIfInBounds 3 (.func (.func 95) #[] #[t1[2]?.getD undef]),defers:=d }:=fun d=>by
  refine⟨fun t=>?_,e1.gl⟩
  rw[yR];split
  ·rename_i hm;have hne:3≠t:=by rintro rfl; simp at hm
   have:=e1.at' t;simp only[du] at this ⊢;rw[fi hne];exact this
  ·exact .any _
 refine wp_mono (wpIn_wide.1 (I7 (rd:=none) (nd:=0) gd UH Yo aiB gd ho2 r1 e1.gl (key _) (by simpa[PO] using h2'))) ?_
 rintro ex a2 w2 ⟨g1,g2,g3,j2,r2,e2,x2⟩;have hp:=(e1.at' 2).mono x2;simp only[du] at hp;rw[hk1] at hp
 have fin:∀(j3:J)(M3:aO)(w3:World)(y:ag×aO),Rel j3 M3 w3->cE j3 M3 w3 o2.bq a2->Ext j M w j3 M3 w3->(bP (qb o2.bq M3 Z2) fun l=>some ((Abs.one l).mR M.length M3,j6 M.length M3))=some y ->
   ∃v,(results f44 a2.tmps).run Tryz.prog w3 = .ok v w3/\vN j M w y (.returned v) w3:=by
  intro j3 M3 w3 y r3 e3 x3 hy;obtain⟨l,hl,hy⟩:=bu hy;cases hy;obtain⟨us,u1,u2,u3⟩:=Cm (P:=Tryz.prog) (rs:=Tryz.f44.results.toList) r3 e3 (by kernel_rfl:HB Tryz.prog Tryz.f44.results.toList=some Z2) hl
  have hres:(results f44 a2.tmps).run Tryz.prog w3 = .ok (if h:us.toArray.size=1 then us.toArray[0] else .tuple us.toArray) w3:=by
   unfold results;rw[lj,Sem.run_bind,Sem.run_map];refine dj (congrArg (fun r:Result (List Value)=>Result.andThen (r.andThen fun a w' => .ok a.toArray w') _) (dj ?_ u1)) rfl
   rfl
  exact⟨_,hres,.inl ⟨_,rfl,j3,zt x3.len r3,wX x3.len (ak _) x3,Eo x3.len r3 (MC u2 u3)⟩⟩
 unfold Cf at h;split at h
 ·rename_i hret;rw[hret] at g1;simp only[rV] at g1;subst g1;simp only[bodyPostD,g3];refine leaves_cons (f:=95) (args := #[t1[2]?.getD undef]) dk (by simp[go_sem]) ?_
  refine(O9 _ _).mono ?_;rintro ed u' w'' ⟨rfl,rfl,rfl⟩;simp only[Leaves,settle];exact fin _ _ _ _ r2 e2 (x1.trans x2) h
 ·rename_i e hpan;split at h
  rotate_left
  ·cases h
  rename_i c hM;rw[hpan] at g1;simp only[rV] at g1;subst g1;simp only[bodyPostD,g3];generalize t1[2]?.getD undef=pv at hp ⊢;cases hp with
  |plain hh=>cases hh
  | @ptr id off b hid hc hj =>
   obtain⟨b',hj',us,t,hw,hrc⟩:=r2.fix _ _ hM rfl;rw[hj] at hj';injection hj' with hj'
   subst hj';refine leaves_cons (f:=95) (args := #[.pointer (some ⟨b,0,none⟩)]) dk (by simp[go_sem]) ?_
   refine(UO r2 e2.gl hM hj hw (by have:=hrc.1; simpa using this.symm)).mono ?_
   rintro ed u' w'' ⟨rfl,rfl,r3,x3⟩;simp only[Leaves,settle];exact fin _ _ _ _ r3 (e2.mono x3) ((x1.trans x2).trans x3) h
 ·cases h
noncomputable def ko:Br:=oh fc 44 Fu
def XU:ym Tryz.prog ko:=xB MW gd (fun h=>Ln h)
def ad3:pC Tryz.prog (aq ko):=uE gd XU
def lF'{f:Nat}{a:List ag}{M:aO}{x:ag×aO}(h:aq fc f a M=some x):aq ko f a M=some x:=xA rfl rfl h
def lF{f:Nat}{vs:List ag}{M:aO}{x:ag×aO}(h:aL (aq fc) f vs M=some x):aL (aq ko) f vs M=some x:=by
 obtain⟨a,B,y,h1,h2⟩:=tY h;exact h2 _ (lF' h1)
section
def qY{s:Bytes}(h:dB s=true):s.length<=32:=by
 unfold dB at h;simp only[bm,gF,iE,eP] at h;omega
def Je:∀(x:List (Bytes×Bool)) (n:Nat) (l:List Bytes),nZ x n=some l->n<=12->(∀s,s∈l->dB s=true)/\l.length+n<=12
 | [],n,l,h,hn=>by
  simp only[nZ,iR] at h;subst h;exact⟨fun s hs=>by simp at hs,ic⟩
 |x::r,n,l,h,hn=>by
  rw[nZ] at h;split at h
  ·cases h
  ·rename_i hb;cases hr:nZ r (n+1) with
   |none=>rw[hr] at h; cases h
   |some k =>
    rw[hr] at h;simp only[cW,iR] at h;subst h;have hb':Ap x n=false:=by simpa using hb
    unfold Ap at hb';simp only[iE,Bool.not_eq_false',ck] at hb';obtain⟨g1,g2⟩:=Je r (n+1) k hr aM;refine⟨fun s hs=>?_,ic⟩
    rcases ba.1 hs with h1|h1
    ·subst h1; exact hb'.1.2
    ·exact g1 s h1
def lV(s:Bytes):(∀x,x∈(bI s).1->dB x=true)/\(bI s).1.length<=12:=by
 unfold bI;split
 ·exact⟨fun s hs=>by simp at hs,dk⟩
 ·split
  ·exact⟨fun s hs=>by simp at hs,dk⟩
  ·exact⟨fun s hs=>by simp at hs,dk⟩
  ·rename_i l hl;obtain⟨g1,g2⟩:=Je _ 0 _ hl aM;exact⟨g1,aM⟩
def DS:∀l:List Bytes,Bm (l.map ag.str)=some l
 | []=>rfl
 |s::r=>by
  show bP (Bm (r.map ag.str)) (fun l=>some (s::l))=_
  rw[DS r]; rfl
def Dd(l:List Bytes)(h:∀x,x∈l->dB x=true):(Lib.join l [47]).length<=33*l.length:=by
 induction l with
 |nil=>simp[Lib.join]
 |cons a r ih =>
  have h1:=qY (h a dk);have h2:=ih (fun x hx=>h x (by simp[hx]))
  cases r with
  |nil=>simp[Lib.join]; omega
  |cons b r=>simp[Lib.join] at h2 ⊢; omega
def mu(l:List Bytes):Bytes:=if (l.length:Int)==0 then [47] else [47]++Lib.join l [47]
def vt(l:List Bytes)(h:∀x,x∈l->dB x=true)(hl:l.length<=12):(mu l).length<=1000:=by
 unfold mu;have:=Dd l h;split<;>simp<;>omega
def al8(l:List Bytes)(h:∀x,x∈l->dB x=true)(hl:l.length<=12)(M:aO):aL (aq dp) 131 [fX l,.str [47]] M=some (.str (Lib.join l [47]),M):=by
 have hq:aq dp 131 [fX l,.str [47]] []=some (.str (Lib.join l [47]),[]):=by
  refine gN (g:=IX) rfl ?_;unfold IX;simp only[];rw[DS,cq,av];have:=Dd l h;omega
 exact cO hq M
attribute [local irreducible] fP fm kM gK dH kr aq aL cH bP
def c65(l:List Bytes)(h:∀x,x∈l->dB x=true)(hl:l.length<=12):aq dp 65 [fX l] []=some (.str (mu l),[]):=by
 refine aw ?_;have q:=al8 l h hl;have hm:(IntKind.i64.max<((1+(Lib.join l [47]).length:Nat):Int))=False:=max_lt _ (by have:=Dd l h; omega)
 unfold mu;simp only[ahd,E65,q,EW,seval];cases h0:(l.length:Int)==0<;>simp only[E65,h0,af,aE,aC,q,hm,EW,seval]
def k65 l h hl:=cP (c65 l h hl)
def gh(s:Bytes):Bytes×Bytes×Int :=
 if (bI s).2 != 0||(((bI s).1.length:Int)==0) then ([],[],60)
 else ((bI s).1.getD ((bI s).1.length-1) [],mu ((bI s).1.take ((bI s).1.length-1)),0)
def ak2(s:Bytes)(hs:s.length<=100000):aq fc 161 [.str s] []=some (.tuple [.str (gh s).1,.str (gh s).2.1,aH (gh s).2.2],[]):=by
 refine aw ?_;have q:=k63 s hs;obtain⟨h1,h2⟩:=lV s;unfold gh;generalize bI s=l at q h1 h2 ⊢;obtain⟨l,e⟩:=l;simp only at h1 h2;have q2:=fun M=>lS (k65 (l.take (l.length-1)) (fun x hx=>h1 x (cR hx)) ic M)
 simp only[fX,jC] at q2;simp only[YX,U7,q,EW,seval];cases he:e != 0
 ·cases h0:(l.length:Int)==0
  ·have hne:0<l.length:=by
    have:¬((l.length:Int)=0):=by simpa using h0
    omega
   have hw:IntKind.i64.wrap ((l.length:Int)-1)=((l.length-1:Nat):Int):=by rw[gb aM aM]; omega
   have hx:=ai (show l.length-1<l.length by omega)
   have hg:l.getD (l.length-1) []=l[l.length-1]:=by simp[List.getD,hx]
   have hle:((l.length-1:Nat):Int)<=(l.length:Int):=aM;have hz:((0:Int)<=((l.length-1:Nat):Int))=True:=dk;simp only[U7,he,h0,hw,hx,q2,hg,hle,hz,dK,af,aC,EW,seval]
  ·simp only[U7,he,h0,dz,aE,EW,seval]
 ·simp only[U7,he,dL,aE,EW,seval]
def abJ s hs:=cP (ak2 s hs)
def tM(s:Bytes)(_hs:s.length<=100000):(gh s).1.length<=1000/\(gh s).2.1.length<=1000:=by
 obtain⟨h1,h2⟩:=lV s;unfold gh;split
 ·exact⟨dk,dk⟩
 ·refine⟨?_,vt _ (fun x hx=>h1 x (cR hx)) ic⟩
  simp only[List.getD];cases hx:(bI s).1[(bI s).1.length-1]? with
  |none=>simp
  |some x=>have:=qY (h1 x (aU hx)); simp; omega
def qh(aa:List Node):List Bytes->Int->Int×Int
 | [],ar=>(ar,0)
 |s::r,ar=>if (eB aa ar s).2 != 0 then (0,(eB aa ar s).2) else qh aa r (eB aa ar s).1
def eW(t:Tree)(aQ:Bytes):Int×Int:=if (bI aQ).2 != 0 then (0,(bI aQ).2) else qh t.aa (bI aQ).1 1
def W6{t:Tree}(ht:Small t)(hr:wQ t){xs:List Bytes}(hxs:∀x,x∈xs->x.length<=100000)(hn:xs.length<=100000) :
  ∀(l pre:List Bytes)(ar:Int),xs=pre++l->fP (aq fc) [.tmp 4,.tmp 5] 0 [.block 0,.seq adX] (.loop [2,8,19,20,21] WI) [(2,dC 0),(8,aH ar),(19,fX xs),(20,aH xs.length),(21,aH pre.length)] [cL (aY t)] =
   some (.tuple [aH (qh t.aa l ar).1,aH (qh t.aa l ar).2],[]):=by
 intro l;induction l with
 |nil =>
  intro pre ar h;rw[cv];simp only[Jv,qX h,aY,qh,EW,seval]
 |cons s rest ih =>
  intro pre ar h;rw[cv];have fx:pre.length+1<=100000:=by rw[h] at hn; simp at hn; omega
  have hw:=Lu pre s;have hi1:=ih (pre++[s]) (eB t.aa ar s).1 (by rw[h]; simp)
  have q:=fun M=>lS (Wj t.aa t.next t.ae ar s ht hr (hxs s (by rw[h]; simp)) trivial M)
  rw[qh];generalize eB t.aa ar s=v at q hi1 ⊢;simp only[aR,aD,aF,aN,aY] at hi1;simp only[Jv,pI h,lr h,aY,q,EW,seval];cases he:v.2 != 0
  ·simp only[Jv,he,hw,af,aC,EW,seval];exact hi1
  ·simp only[Jv,he,aE,EW,seval]
def akZ(t:Tree)(aQ:Bytes)(ht:Small t)(hr:wQ t)(hp:aQ.length<=100000):aq fc 156 [bD t,.str aQ] []=some (.tuple [aH (eW t aQ).1,aH (eW t aQ).2],[]):=by
 refine aw ?_;have q:=k63 aQ hp;obtain⟨h1,h2⟩:=lV aQ;have hl:=W6 ht hr (xs:=(bI aQ).1) (fun x hx=>by have:=qY (h1 x hx); omega) aM (bI aQ).1 [] 1 rfl
 unfold eW;generalize bI aQ=v at q hl ⊢;simp only[aY,aF] at hl;simp only[YU,Jv,bD,aY,q,EW,seval];cases he:v.2 != 0
 ·simp only[Jv,he,af,aC,EW,seval];exact hl
 ·simp only[Jv,he,aE,EW,seval]
def Wh(t:Tree)(aQ:Bytes)(ht:Small t)(hr:wQ t)(hp:aQ.length<=100000)(M:aO):aL (aq fc) 156 [.agg [aV t.aa,aH t.next,aH t.ae],.str aQ] M=some (.tuple [aH (eW t aQ).1,aH (eW t aQ).2],M) :=
 cO (akZ t aQ ht hr hp) M
def jj(e:Int):ag := .oU (.iface 34 (.int .i64 e))
end
section
attribute [local irreducible] fP fm kM gK dH kr aq aL cH bP
def cF.iC{t:Tree}{cz:Int->Nat}{x:Int}(h:cF t cz x):∀m,m∈t.aa->m.ar<t.next:=fun m hm=>(h.num _ _ ((fp h.jK.iW).2 ⟨hm,rfl⟩)).2
end
def cF.DW{t:Tree}{cz:Int->Nat}{x:Int}(h:cF t cz x){i:Int}{n:Node}(hi:find t.aa i=some n)(hk:n.kind=2):sj t.aa i=cz i:=by
 simp only[sj,h.sQ hi hk]; omega
def cF.Pc{t:Tree}{cz:Int->Nat}{x:Int}(h:cF t cz x)(of:Int):∀(m:Nat)(i:Int)(out:List Int)(n:Node),find t.aa i=some n->n.kind=2->cz i<=m->out.contains i=true->(pP t.aa m i out).contains of=(out.contains of||ke t.aa of (m+1) i):=by
 intro m;induction m with
 |zero =>
  intro i out n hi hk hd ho;simp only[pP,ke]
  by_cases h1:i=of
  ·subst h1; rw[ho]; rfl
  ·simp[h1]
 |succ m ih =>
  intro i out n hi hk hd ho;simp only[pP];rw[ke]
  by_cases h1:i=1
  ·by_cases h2:i=of
   ·subst h2; simp[h1] at ho ⊢; exact ho
   ·simp[h1,h2];intro h3; exact absurd (h1.trans h3) h2
  ·obtain⟨a,p,b,c⟩:=h.sW _ _ hi hk h1;simp only[jN,ne_eq,h1,mP,↓reduceIte,bO,hi,dD,cG,bQ,hk,an,dK,af];rw[ih _ _ p b c aM dk,h.UT hi]
   by_cases h2:i=of
   ·subst h2;have:(out++[n.up]).contains i=true:=by simp at ho ⊢; exact .inl ho
    rw[this,ho]; simp
   ·rw[aj h2]
    by_cases h3:n.up=of
    ·have:ke t.aa of (m+1) n.up=true:=by simp[ke,h3]
     rw[this]; simp
    ·have:(out++[n.up]).contains of=out.contains of:=by
      simp;intro hh; exact absurd hh.symm h3
     rw[this]
def cF.yw{t:Tree}{cz:Int->Nat}{x:Int}(h:cF t cz x)(of:Int){i:Int}{n:Node}(hi:find t.aa i=some n)(hk:n.kind=2):(o4 t.aa i).contains of=jr t.aa i of:=by
 have:=h.Pc of t.aa.length i [i] n hi hk (by have:=h.w8 hi hk; omega) dk
 simp only[o4,this,jr]
 by_cases h2:i=of
 ·subst h2; simp[ke]
 ·have:([i]:List Int).contains of=false:=by simp; exact fun hh=>h2 hh.symm
  rw[this]; rfl
def cF.under{t:Tree}{cz:Int->Nat}(h:cF t cz 0){to:Int}{nm:Bytes}{dT:Node}(hT:find t.aa to=some dT):(lR t.aa dT.aK nm).ar=fC dT.aK nm:=by
 unfold lR fC;cases he:eE dT.aK nm with
 |none=>rfl
 |some e =>
  obtain⟨_,_,_,_,m,hm,_⟩:=h.sX _ _ e hT (eH he).1;simp[bO,hm,(cr hm).2]
def TK{t:Tree}{cz:Int->Nat}(h:cF t cz 0)(dir:Int)(s:Bytes):o8 t dir s=mU t dir s:=by
 unfold o8 mU
 by_cases h0:(gM t.aa dir).2=0
 ·obtain⟨d,d1,d2,d3⟩:=yL h0
  have hf:C6 t d=(decide ((64:Int)<=d.aK.length)||(decide ((12:Int)<=sj t.aa dir)||decide ((1099511627776:Int)<=t.ae))):=by
   unfold C6;rw[(cr d1).2,h.pT d1 d2,h.DW d1 d2]
  simp only[d3,hf,an,af,↓reduceIte,ne_eq,not_true_eq_false];cases dB s<;>simp
 ·rw[av (by simpa using h0),av h0]
def Vo{t:Tree}{cz:Int->Nat}(h:cF t cz 0)(dir:Int)(s:Bytes)(kind:Int):JL t dir s kind=nL t dir s kind:=by
 unfold JL nL;rw[TK h]
def adr{t:Tree}{cz:Int->Nat}(h:cF t cz 0)(ar dir:Int)(s:Bytes):lnW t ar dir s=B4 t ar dir s:=by
 unfold lnW B4;rw[TK h]
def BU{aa:List Node}{x:Int}{m:Node}(hx:find aa x=some m):kq aa m=gx aa x:=by
 unfold kq gx;simp only[bO,hx,bQ,(cr hx).2]
def aeg{t:Tree}{cz:Int->Nat}(h:cF t cz 0)(dir:Int)(s:Bytes):Z5 t dir s=wv t dir s:=by
 unfold Z5 wv;split
 ·rfl
 ·rename_i hl;obtain⟨d,e,d1,d2,d3,d4,d5⟩:=look_ok (by simpa using hl)
  simp only[d5];obtain⟨_,_,_,_,m,hm,_⟩:=h.sX _ _ e d1 (eH d4).1
  have hm':find (dU t.aa dir s) e.ar=some m:=by
   rw[jh h.jK.iW d1,aj (h.vX d1 (eH d4).1)]; exact hm
  have hn:bO t.aa e.ar=m:=by simp[bO,hm]
  rw[hn,BU hm']
def ER(aa:List Node)(ar at' d:Int)(b:Int):∀(l:List Node)(most:Int),b<wc aa ar at' d l most->b<most\/∃n,n∈l/\(n.kind==2&&jr aa n.ar ar)=true/\b<uV aa at' d n
 | [],most,h => .inl h
 |m::l,most,h=>by
  rw[wc] at h;rcases ER aa ar at' d b l _ h with h1|⟨n,h1,h2,h3⟩
  ·have e:sG aa ar at' d m most=if m.kind==2&&jr aa m.ar ar then (if uV aa at' d m>most then uV aa at' d m else most) else most:=rfl
   rw[e] at h1;split at h1
   ·rename_i hb;split at h1
    ·exact .inr ⟨m,aG,hb,h1⟩
    ·exact .inl h1
   ·exact .inl h1
  ·exact .inr ⟨n,aP _ h1,h2,h3⟩
def cF.VG{t:Tree}{cz:Int->Nat}(h:cF t cz 0){x to:Int}{m:Node}(hx:find t.aa x=some m)(hk:m.kind=2)(hd:cz to<12) :
  HL t.aa x (((cz to+1:Nat):Int))=decide ((12:Int)<BF t.aa x (((cz to+1:Nat):Int))):=by
 have key:∀n,n∈t.aa->uT t.aa (((cz to+1:Nat):Int)) ((cz x:Nat):Int) x n=((n.kind==2&&jr t.aa n.ar x)&&decide ((12:Int)<uV t.aa (((cz to+1:Nat):Int)) ((cz x:Nat):Int) n)):=by
  intro n hn;have hi:find t.aa n.ar=some n:=(fp h.jK.iW).2 ⟨hn,rfl⟩;unfold uT
  by_cases hk2:n.kind=2
  ·rw[h.yw x hi hk2,h.sQ hi hk2]
   by_cases hb:jr t.aa n.ar x=true
   ·rw[h.EP hx hk hd hi hk2 hb];have d1:=(h.deep _ _ hi hk2).1;have d2:=(h.deep _ _ hx hk).1;have d3:=h.Au _ _ n hi hk2 rfl hb;have w1:nc ((((cz to+1:Nat):Int))+((cz n.ar+1:Nat):Int))=(((cz to+1:Nat):Int))+((cz n.ar+1:Nat):Int):=gb aM aM;have w2:nc ((((cz to+1:Nat):Int))+((cz n.ar+1:Nat):Int)-1)=(((cz to+1:Nat):Int))+((cz n.ar+1:Nat):Int)-1:=gb aM aM;have w3:nc ((((cz to+1:Nat):Int))+((cz n.ar+1:Nat):Int)-1-(cz x:Nat))=(((cz to+1:Nat):Int))+((cz n.ar+1:Nat):Int)-1-(cz x:Nat):=gb aM aM;rw[w1,w2,w3];unfold rL;rw[av hb,hb];simp only[hk2,iw,b9];rw[er];simp only[cV,bm,bt,eG];split<;>omega
   ·have:jr t.aa n.ar x=false:=by simpa using hb
    simp[this]
  ·have:(n.kind==2)=false:=by simpa using hk2
   simp[this]
 have hdx:(sj t.aa x:Int)=((cz x:Nat):Int):=by rw[h.DW hx hk]
 unfold HL BF;rw[h.pT hx hk,hdx];rw[er];simp only[List.any_eq_true,bt];constructor
 ·rintro⟨n,hn,hp⟩;rw[key n hn] at hp;simp only[bm,bt] at hp;have:=(AO t.aa x (((cz to+1:Nat):Int)) ((cz x:Nat):Int) t.aa 0).2 n hn (by simp[hp.1.1,hp.1.2])
  omega
 ·intro hh;rcases ER t.aa x _ _ 12 t.aa 0 hh with h1|⟨n,h1,h2,h3⟩
  ·omega
  ·exact⟨n,h1,by rw[key n h1,h2]; simpa using h3⟩
def adz{t:Tree}{cz:Int->Nat}(h:cF t cz 0)(f:Int)(s:Bytes)(to:Int)(nm:Bytes):Mx t f s to nm=wR t f s to nm:=by
 unfold Mx wR;split
 ·rfl
 rename_i c1;split
 ·rfl
 rename_i c2;split
 ·rfl
 obtain⟨dF,e,e1,e2,e3,e4,e5⟩:=look_ok (by simpa using c1)
 obtain⟨dT,g1,g2,g3⟩:=yL (show(gM t.aa to).2=0 by simpa using c2)
 have hem:=(eH e4).1;obtain⟨_,_,x1,_,m,hm,hup⟩:=h.sX _ _ e e1 hem;have hnode:bO t.aa e.ar=m:=by simp[bO,hm]
 simp only[e5,g3,hnode,h.under g1,h.yw e.ar g1 g2];split
 ·rfl
 rename_i c4;split
 ·rfl
 rename_i c5;have hup':fC dT.aK nm≠e.ar:=by simpa using c4
 have hnf:=h.vX e1 hem
 have hne:e.ar≠to:=fun hh=>by
  rw[hh,g1] at hm; cases hm;simp only[g2,iw,b9] at c5;rw[hh,cF.yG] at c5;exact c5 rfl
 have hmany:∀there:Bool,(fC dT.aK nm==0) = !there->Dp t f to dT.aK there m.kind e.ar=manyN t f to dT.aK m.kind (fC dT.aK nm) e.ar:=by
  intro there hth;unfold Dp manyN;rw[hth,h.sQ g1 g2,h.pT g1 g2]
  by_cases hd:cz to<12
  ·have hw:nc (((cz to:Nat):Int)+1)=((cz to+1:Nat):Int):=by
    rw[show(((cz to:Nat):Int)+1)=((cz to+1:Nat):Int) by omega]
    exact gb aM aM
   rw[hw]
   have hdd:decide ((12:Int)<((cz to+1:Nat):Int))=decide ((12:Int)<=((cz to:Nat):Int)):=by
    rw[decide_eq_decide]; omega
   rw[hdd];rcases h.kind _ _ hm with hk|hk
   ·simp[hk]
   ·rw[h.VG hm hk hd]
  ·have h1:decide ((12:Int)<((cz to+1:Nat):Int))=true:=by rw[bt]; omega
   have h2:decide ((12:Int)<=((cz to:Nat):Int))=true:=by rw[bt]; omega
   rw[h1,h2]; simp
 cases hfr:eE dT.aK nm with
 |none =>
  have hu:fC dT.aK nm=0:=by simp[fC,hfr]
  have hm1:=hmany false (by rw[hu]; rfl)
  rw[hu] at hm1 ⊢;have hcl:sV t.aa m.kind 0=0:=by simp[sV,h.zero]
  simp only[jl,cp,af,↓reduceIte,hcl,an,hm1];split
  ·rfl
  ·unfold yt rQ;simp only[hnode,af,↓reduceIte,an]
 |some e2 =>
  have hu:fC dT.aK nm=e2.ar:=by simp[fC,hfr]
  obtain⟨_,_,_,_,y,hy,_⟩:=h.sX _ _ e2 g1 (eH hfr).1;have hny:bO t.aa e2.ar=y:=by simp[bO,hy]
  have hto:=h.vX g1 (eH hfr).1;have hy0:=(h.num _ _ hy).1;have hm1:=hmany true (by rw[hu]; simp; omega)
  have hnu:lR t.aa dT.aK nm=y:=by simp[lR,hfr,hny]
  rw[hu] at hm1 ⊢
  have hcl:sV t.aa m.kind e2.ar=zQ m y:=by
   unfold sV zQ;simp only[hy,dD,cG,af,↓reduceIte,hny]
  rw[hnu,hcl];simp only[dD,b9,hm1];split
  ·rfl
  rename_i c6;split
  ·rfl
  have hy00:y.aK=[]:=by
   have:zQ m y=0:=by simpa using c6
   unfold zQ at this;split at this
   ·cases this
   split at this
   ·cases this
   split at this
   ·cases this
   ·rename_i k3; exact cf.1 (by simpa using k3)
  have hnf2:e2.ar≠f:=fun hh=>by
   rw[hh,e1] at hy; cases hy;rw[hy00] at hem; cases hem
  have hyl:find (dU (dU t.aa f s) to nm) e2.ar=some y:=by
   have f1:=jh h.jK.iW e1 (s:=s);obtain⟨dT',hT'⟩:∃dT',find (dU t.aa f s) to=some dT':=by rw[f1]; split<;>simp_all
   rw[jh (lP h.jK.iW f s) hT',aj hto,f1,aj hnf2];exact hy
  have hb:(e2.ar != 0)=true:=ic;unfold yt rQ;simp only[hnode,↓reduceIte,hb,BU hyl]
section
attribute [local irreducible] fP fm kM gK dH kr aq aL cH bP
def alo(e:eM)(z:Int):aq dp 219 [gq e,dC 0] [cL [aH z]]=some (.bool (decide (e.ae<z)),[cL [aH z]]):=by
 refine aw ?_;simp only[Zj,ajS,gq,dJ,EN,seval]
def amu(e:eM)(z:Int)(p:Nat)(M:aO)(hM:nth M p=some (cL [aH z])):aL (aq dp) 219 [.agg (dJ e),dC p] M=some (.bool (decide (e.ae<z)),M) :=
 Gl (p:=p) (vs:=[.agg (dJ e)]) hM (alo e z) rfl rfl rfl rfl rfl rfl rfl rfl rfl
def mX(z:Int)(l:List eM):List eM:=l.filter fun e => !decide (e.ae<z)
def Ai:eM:=⟨[],0,0⟩
abbrev Uw(m:Nat):ag:=Gr 3 m
def agu(xs:List eM)(z:Int)(hn:xs.length<=100000)(h0:xs≠[]):aq dp 217 [.cY 0 0 3 0 xs.length,.func 219 [dC 1]] [.arr 3 0 (xs.map gq),cL [aH z]] =
  some (Uw (mX z xs).length,[.arr 3 0 ((mX z xs++List.replicate (xs.length-(mX z xs).length) Ai).map gq),cL [aH z]]) :=
 ahx (sz:=3) (z:=[.str [],aH 0,aH 0]) (zc:=[.str [],aH 0,aH 0]) (gi:=246) (e:=dJ) (zx:=Ai) (p:=fun e=>decide (e.ae<z)) gd rfl gd rfl rfl hn (fun _=>rfl) rfl pd (fun _=>rfl) (fun _=>rfl) (fun _=>rfl) ⟨fun _ _=>rfl,rfl,fun _=>rfl,rfl⟩ (fun e _ _=>amu e z 1 _ rfl) h0
end
def nA:Pp:=⟨0,0,0,0,0,[],[]⟩
def mj(t:Tree)(aQ:Bytes):Int×Bytes×Int :=
 if (gh aQ).2.2 != 0 then (0,[],(gh aQ).2.2)
 else if (eW t (gh aQ).2.1).2 != 0 then (0,[],(eW t (gh aQ).2.1).2)
 else ((eW t (gh aQ).2.1).1,(gh aQ).1,0)
def UF(n:Node):Int:=if (n.data.length:Int)<(n.aK.length:Int) then (n.aK.length:Int) else (n.data.length:Int)
def wH(x:eM):List eM->List eM
 | []=>[x]
 |y::r=>if x.ae<y.ae then x::y::r else y::wH x r
def nn:List eM->List eM
 | []=>[]
 |x::r=>wH x (nn r)
def BE(aa:List Node)(ar z:Int):List eM:=nn (mX z (gM aa ar).1.aK)
def qM(t:Tree)(ar z m:Int):List eM×Int×Int :=
 if decide (z<0)||(decide (m<1)||decide (64<m)) then ([],0,1)
 else if (gM t.aa ar).2 != 0 then ([],0,(gM t.aa ar).2)
 else if decide (((BE t.aa ar z).length:Int)<=m) then (BE t.aa ar z,0,0)
 else ((BE t.aa ar z).take m.toNat,nc (((BE t.aa ar z).getD (m.toNat-1) Ai).ae+1),0)
def isF(aa:List Node)(i:Int):Prop:=∃n,find aa i=some n/\n.kind=1
def Zr(aa:List Node):Prop:=ng aa/\¬isF aa 0
def Rt.zr{t:Tree}(h:Rt t):Zr t.aa:=by
 obtain⟨cz,g⟩:=h;exact⟨g.jK.iW,fun⟨n,h1,_⟩=>by have:=(g.num _ _ h1).1; omega⟩
def aas{aa:List Node}(h:ng aa){a b:Nat}{x y:Node}(hx:aa[a]?=some x)(hy:aa[b]?=some y)(e:x.ar=y.ar):a=b:=by
 obtain⟨ha,rfl⟩:=au.1 hx;obtain⟨hb,rfl⟩:=au.1 hy;rcases iQ a b with h1|h1|h1
 ·have:=cB.1 h _ _ ha hb h1; omega
 ·exact h1
 ·have:=cB.1 h _ _ hb ha h1; omega
def wP:Bytes->Bytes->List Bytes->Option (List Bytes)
 | [],cur,out=>if !dB cur||(out.length:Int)==12 then none else some (out++[cur])
 |b::r,cur,out=>if (b.toNat:Int) != 47 then wP r (cur++[b]) out else if !dB cur||(out.length:Int)==12 then none else wP r [] (out++[cur])
def jJ(s:Bytes):List Bytes×Int:=if s==[47] then ([],0) else match s with
 | []=>([],60)
 |b::r=>if (b.toNat:Int) != 47 then ([],60) else match wP r [] [] with
  |none=>([],60)
  |some l=>(l,0)
section
def yT(l:List Bytes)(s:Bytes):Bytes:=l.foldl (fun s x=>s++[47]++x) s
def E2(l:List Bytes):Bytes:=if (l.length:Int)==0 then [47] else yT l []
def XQ:∀(rest cur:Bytes)(out l:List Bytes),wP rest cur out=some l->(∀x,x∈out->dB x=true)->out.length<=12->(∀x,x∈l->dB x=true)/\l.length<=12:=by
 have key:∀(cur:Bytes)(out:List Bytes),¬(!dB cur||(out.length:Int)==12)=true->(∀x,x∈out->dB x=true)->out.length<=12->(∀x,x∈out++[cur]->dB x=true)/\(out++[cur]).length<=12:=by
  intro cur out h1 h2 h3;simp only[cV,gF,eG,kB,kO] at h1;refine⟨fun x hx=>?_,ic⟩
  rcases bC.1 hx with hx|hx
  ·exact h2 x hx
  ·rw[bU.1 hx]; exact h1.1
 intro rest;induction rest with
 |nil =>
  intro cur out l h h1 h2;rw[wP] at h;split at h
  ·cases h
  ·rename_i hc;cases h;exact key cur out hc h1 h2
 |cons b r ih =>
  intro cur out l h h1 h2;rw[wP] at h;split at h
  ·exact ih _ _ _ h h1 h2
  split at h
  ·cases h
  ·rename_i hc;obtain⟨k1,k2⟩:=key cur out hc h1 h2;exact ih _ _ _ h k1 k2
def Bj(s:Bytes):(∀x,x∈(jJ s).1->dB x=true)/\(jJ s).1.length<=12:=by
 unfold jJ;split
 ·simp
 split
 ·simp
 split
 ·simp
 split
 ·simp
 ·rename_i h;exact XQ _ _ _ _ h dk dk
def wz(aa:List Node):List Bytes->Int->Int×Int
 | [],a=>(a,0)
 |x::r,a=>if (eB aa a x).2 != 0 then (0,(eB aa a x).2) else wz aa r (eB aa a x).1
def sR(aa:List Node)(s:Bytes):Int×Int:=if (jJ s).2 != 0 then (0,(jJ s).2) else wz aa (jJ s).1 1
end
def k7(l:List Bytes):Bytes:=l.flatMap fun s=>47::s
def jP(l:List Bytes):Bytes:=if l=[] then [47] else k7 l
def lu(s:Bytes)(r:List Bytes):k7 (s::r)=47::(s++k7 r):=by simp[k7]
def NoS(s:Bytes):Prop:=∀b,b∈s->b≠47
def A7{s:Bytes}(h:dB s=true):NoS s:=by
 intro b hb e;simp only[dB,bm,bF] at h;have:=h.2 b hb;rw[e] at this
 revert this; decide
def Fl{s:Bytes}(h:dB s=true):s≠[]:=by
 rintro rfl; revert h; decide
def Db(r:List Bytes):∀(s:Bytes),NoS s->Lib.indexByte (s++k7 r) 47=if r=[] then -1 else (s.length:Int)
 | [],_=>by cases r<;>simp[k7,Lib.indexByte]
 |b::s,h=>by
  have hb:(b==47)=false:=by simpa using h b aG
  rw[bp,Lib.indexByte,Db r s fun x hx=>h x (aP _ hx),hb]
  by_cases hr:r=[]
  ·simp[hr]
  ·have:((s.length:Int) == -1)=false:=dk;simp[hr,this]
def EB(r:List Bytes){s:Bytes}(h:NoS s):D6 (s++k7 r)=s.length:=by
 unfold D6;rw[Db r s h]
 by_cases hr:r=[]
 ·simp[hr,k7]
 ·have:¬((s.length:Int)<0):=aM;simp[hr,this]
def BM:∀(l:List Bytes),(∀s,s∈l->NoS s)->kN (k7 l)=l.map fun s=>(s,true)
 | [],_=>rfl
 |s::r,h=>by
  have hs:=h s aG;have hne:k7 (s::r)≠[]:=by rw[lu]; simp
  have hc:ry (k7 (s::r))=(s++k7 r,true):=by rw[lu]; simp[ry]
  have h1:rI (k7 (s::r))=(s,true):=by simp[rI,hc,EB r hs]
  have h2:rh (k7 (s::r))=k7 r:=by simp[rh,hc,EB r hs]
  rw[tC hne,h1,h2,BM r (fun s hs=>h s (aP _ hs))]
  rfl
def DQ:∀(l:List Bytes)(n:Nat),(∀s,s∈l->dB s=true)->n+l.length<=12->nZ (l.map fun s=>(s,true)) n=some l
 | [],_,_,_=>rfl
 |s::r,n,h,hl=>by
  have hb:Ap (s,true) n=false:=by
   simp only[aD] at hl;simp[Ap,h s aG]; omega
  simp only[a8,nZ,hb,af,aC];rw[DQ r (n+1) (fun s hs=>h s (aP _ hs)) (by simp only[aD] at hl; omega)]
  rfl
def Q9{s:Bytes}{r:List Bytes}(h:dB s=true):jP (s::r)≠[47]:=by
 have:=Fl h;rw[jP,aj dk,lu];simp[this]
def lg{l:List Bytes}(h:∀s,s∈l->dB s=true)(hl:l.length<=12):bI (jP l)=(l,0):=by
 cases l with
 |nil=>rfl
 |cons s r =>
  have h1:=Q9 (r:=r) (h s aG);have h2:jP (s::r)=k7 (s::r):=by simp[jP]
  unfold bI;rw[aj h1,h2,BM _ (fun s hs=>A7 (h s hs)),DQ _ 0 h aM]
def Li:∀(n:Nat)(s:Bytes)(m:Nat)(l:List Bytes),s.length<=n->nZ (kN s) m=some l->s=k7 l:=by
 intro n;induction n with
 |zero =>
  intro s m l hs h;have:s=[]:=cK aM;subst this;simp[kN,tz,nZ] at h;subst h; rfl
 |succ n ih =>
  intro s m l hs h
  by_cases hn:s=[]
  ·subst hn;simp[kN,tz,nZ] at h;subst h; rfl
  ·rw[tC hn,nZ] at h;split at h
   ·cases h
   ·rename_i hb;obtain⟨l',h1,rfl⟩:=aW.1 h;have cA:=zZ hn;have hr:=ih _ _ _ aM h1;simp only[Ap,cV,kB,gF,kO] at hb;have h2:(ry s).2=true:=hb.1.1;cases s with
    |nil=>exact absurd rfl hn
    |cons b r =>
     have hc:b=47/\ry (b::r)=(r,true):=by
      by_cases e:b=47
      ·exact⟨e,by simp[ry,e]⟩
      ·simp[ry,e] at h2
     obtain⟨rfl,hc⟩:=hc;rw[lu,<-hr];simp[rI,rh,hc]
def xR{s:Bytes}{l:List Bytes}(h:bI s=(l,0)):s=jP l:=by
 unfold bI at h;split at h
 ·rename_i e;injection h with h _
  subst h; exact e
 ·split at h
  ·cases h
  ·cases h
  ·rename_i l' hne hg;injection h with h _
   subst h;have:=Li s.length s 0 _ (ak _) hg;rw[jP,aj hne];exact this
def DN:∀(s rest cur:Bytes)(out:List Bytes),NoS s->wP (s++rest) cur out=wP rest (cur++s) out
 | [],rest,cur,out,_=>dk
 |b::s,rest,cur,out,h=>by
  have hb:((b.toNat:Int) != 47)=true:=by
   have:=h b aG;simp only[jN,ne_eq];intro e;exact this (iT.1 (by rw[show((47:UInt8).toNat)=47 from rfl]; omega))
  rw[bp,wP,av hb,DN s rest _ out fun x hx=>h x (aP _ hx)]
  simp
def FO:∀(r:List Bytes)(cur:Bytes)(out:List Bytes),dB cur=true->(∀s,s∈r->dB s=true)->out.length+1+r.length<=12->wP (k7 r) cur out=some (out++cur::r)
 | [],cur,out,hc,_,hl=>by
  have:((out.length:Int)==12)=false:=by simp at hl ⊢; omega
  simp[k7,wP,hc,this]
 |s::r,cur,out,hc,h,hl=>by
  have h1:((out.length:Int)==12)=false:=by simp at hl ⊢; omega
  have h2:((((47:UInt8).toNat:Int)) != 47)=false:=rfl;rw[lu,wP,h2];simp only[hc,h1,cG,dK,af,aC];rw[DN s _ _ _ (A7 (h s aG)),bw,FO r s _ (h s aG) (fun x hx=>h x (aP _ hx)) (by simp at hl ⊢; omega)]
  simp
def O5{l:List Bytes}(h:∀s,s∈l->dB s=true)(hl:l.length<=12):jJ (jP l)=(l,0):=by
 cases l with
 |nil=>rfl
 |cons s r =>
  have h1:(jP (s::r)==[47])=false:=by simpa using Q9 (r:=r) (h s aG)
  have h2:jP (s::r)=47::(s++k7 r):=by simp[jP,lu]
  have h3:((((47:UInt8).toNat:Int)) != 47)=false:=rfl;unfold jJ;rw[h1,h2];simp only[h3,af,aC];rw[DN s _ _ _ (A7 (h s aG)),bw,FO r s [] (h s aG) (fun x hx=>h x (aP _ hx)) (by simp at hl ⊢; omega)]
  rfl
def BJ:∀(l:List Bytes)(s:Bytes),yT l s=s++k7 l
 | [],s=>by simp[yT,k7]
 |x::l,s=>by
  have:=BJ l (s++[47]++x);simp only[yT,bB] at this ⊢;rw[this,lu]; simp
def zM(l:List Bytes):E2 l=jP l:=by
 unfold E2 jP;cases l with
 |nil=>rfl
 |cons s r=>rw[aj ic,aj dk,BJ]; rfl
def qF(l:List Bytes):mu l=jP l:=by
 unfold mu jP;cases l with
 |nil=>rfl
 |cons s r =>
  rw[aj ic,aj dk,Lib.join_cons,lu];simp[Lib.joinTail,k7,List.flatMap]
def UI{s:Bytes}{l:List Bytes}(h:bI s=(l,0)):jJ s=(l,0):=by
 obtain⟨o1,o2⟩:=lV s;rw[h] at o1 o2;rw[xR h,O5 o1 o2]
def Tq{s:Bytes}(h:((gh s).2.2 != 0)=false):∃P x,bI s=(P++[x],0)/\gh s=(x,jP P,0):=by
 unfold gh at h ⊢;split at h
 ·cases h
 ·rename_i hc;rw[aj hc];simp only[cV,kB,Bool.not_eq_true] at hc;generalize hS:bI s=S at hc;obtain⟨l,e⟩:=S;have he:e=0:=by simpa using hc.1
  rcases fV l with rfl|⟨P,x,rfl⟩
  ·simp at hc
  ·rw[gP] at *;refine⟨P,x,by rw[he],?_⟩
   simp[qF]
def yc{t:Tree}{s:Bytes}{j:Int}:eW t s=(j,0)↔∃l,bI s=(l,0)/\qh t.aa l 1=(j,0):=by
 unfold eW;constructor
 ·intro h;split at h
  ·rename_i hc;injection h with _ h
   rw[h] at hc; cases hc
  ·rename_i hc;exact⟨_,ig rfl (by simpa using hc),h⟩
 ·rintro⟨l,h1,h2⟩;rw[h1];simpa using h2
def Jg{t:Tree}{s:Bytes}(h:((mj t s).2.2 != 0)=false):∃P x d,bI s=(P++[x],0)/\qh t.aa P 1=(d,0)/\mj t s=(d,x,0):=by
 unfold mj at h ⊢;split at h
 ·rename_i hc; simp only at h; rw[h] at hc; cases hc
 ·rename_i hc;obtain⟨P,x,h1,h2⟩:=Tq (by simpa using hc)
  rw[h2] at h ⊢;simp only[an,af,aC] at h ⊢;split at h
  ·rename_i hw; simp only at h; rw[h] at hw; cases hw
  ·rename_i hw;obtain⟨l,g1,g2⟩:=yc.1 (ig rfl (by simpa using hw):eW t (jP P)=((eW t (jP P)).1,0))
   obtain⟨o1,o2⟩:=lV s;rw[h1] at o1 o2;rw[lg (fun y hy=>o1 y (fG _ hy)) (by simp at o2; omega)] at g1
   injection g1 with g1 _
   subst g1;exact⟨P,x,_,h1,g2,by rw[aj hw]⟩
def NT{t:Tree}(h:Rt t)(k i:Int):find (pc t k).1.aa i=if i=k/\∃n,find t.aa k=some n/\k9 n=true then none else find t.aa i:=by
 have hz:=h.zr;obtain⟨cz,g⟩:=h;unfold pc;cases hf:find t.aa k with
 |none=>simp
 |some n =>
  have hn:bO t.aa k=n:=by simp[bO,hf]
  have hl:=g.df _ _ hf;simp only[dD,cG,af,aC,hn];rcases g.kind _ _ hf with hk|hk
  ·have h1:(n.kind==2)=false:=by simp[hk]
   simp only[h1,af,aC];split
   ·rename_i h2;have h2':0<n.df:=by simpa using h2
    have:k9 n=false:=by simp[k9,hk]; omega
    simp[this]
   ·rename_i h2;have h2':¬0<n.df:=by simpa using h2
    have h3:0<=n.df:=by rw[hl]; split<;>omega
    have:k9 n=true:=by simp[k9,hk]; omega
    rw[sd hz.1];simp[this]
  ·have h1:(n.kind==2)=true:=by simp[hk]
   have:k9 n=false:=by simp[k9,hk]
   simp[h1,this]
def WR{aa:List Node}{dir:Int}{s:Bytes}{d:Node}(hd:find aa dir=some d)(hk:d.kind=2)(hs:dB s=true):eB aa dir s=match eE d.aK s with
  |none=>(0,70)
  |some e=>(e.ar,0):=by
 have:gM aa dir=(d,0):=by simp[gM,hd,hk]
 simp only[eB,this,hs];cases eE d.aK s<;>simp
def ZH(t:Tree)(f:Int)(s:Bytes)(to:Int)(nm:Bytes)(y:Int):List Node:=if y != 0 then gx (dU (dU t.aa f s) to nm) y else dU t.aa f s
def It(o:Option Node):Option Node:=match o with
 |some y=>yp y
 |none=>none
def Xj{t:Tree}{cz:Int->Nat}(h:cF t cz 0)(f:Int)(s:Bytes)(to:Int)(nm:Bytes)(y:Int):ng (ZH t f s to nm y):=by
 unfold ZH;split
 ·exact wx (lP (lP h.jK.iW f s) to nm) y
 ·exact lP h.jK.iW f s
def Qv{t:Tree}{cz:Int->Nat}(h:cF t cz 0){f:Int}{s:Bytes}{to:Int}{nm:Bytes}{dF dT m:Node}{e:eM}(k:Hi t cz f s to nm dF dT m e)(i:Int) :
  find (ZH t f s to nm (fC dT.aK nm)) i=if i=to then some { dT with aK:=fO (if to=f then fO dT.aK s else dT.aK) nm }
   else if i=f then some { dF with aK:=fO dF.aK s } else if i=fC dT.aK nm then It (find t.aa i) else find t.aa i:=by
 have f1:=jh h.jK.iW k.hF (s:=s);cases hfr:eE dT.aK nm with
 |none =>
  have hu:fC dT.aK nm=0:=by simp[fC,hfr]
  have hdr:fO (if to=f then fO dT.aK s else dT.aK) nm=(if to=f then fO dT.aK s else dT.aK):=by
   refine CR ?_;split
   ·exact rX hfr
   ·exact hfr
  rw[hu,hdr];simp only[ZH,an,af,↓reduceIte];rw[f1]
  by_cases i1:i=to
  ·rw[av i1];subst i1
   by_cases i2:i=f
   ·subst i2;have:=k.hF; rw[k.hT] at this; cases this;simp only[↓reduceIte]
   ·simp only[i2,↓reduceIte]; exact k.hT
  ·rw[aj i1]
   by_cases i2:i=f
   ·simp only[i2,↓reduceIte]
   ·simp only[i2,↓reduceIte]
    by_cases i3:i=0
    ·subst i3; simp[h.zero,It]
    ·simp only[i3,↓reduceIte]
 |some e2 =>
  have hu:fC dT.aK nm=e2.ar:=by simp[fC,hfr]
  obtain⟨q1,y,q2,q3,q4,q5,q6⟩:=k.Xn e2 hfr;have hy0:=(h.num _ _ q2).1;have hb:(e2.ar != 0)=true:=ic;rw[hu];simp only[ZH,hb,↓reduceIte];have a1:=lP h.jK.iW f s
  obtain⟨dT',hT',hd'⟩:∃dT',find (dU t.aa f s) to=some dT'/\({ dT' with aK:=fO dT'.aK nm }:Node)={ dT with aK:=fO (if to=f then fO dT.aK s else dT.aK) nm }:=by
   rw[f1];split
   ·rename_i hh;subst hh;have:=k.hF; rw[k.hT] at this; cases this;exact⟨_,rfl,rfl⟩
   ·exact⟨dT,k.hT,rfl⟩
  have f3:=jh a1 hT' (s:=nm);have hy3:find (dU (dU t.aa f s) to nm) e2.ar=some y:=by rw[f3,aj q6,f1,aj q5]; exact q2
  rw[qx (lP a1 to nm) hy3,f3,f1,hd']
  by_cases i1:i=e2.ar
  ·subst i1;simp only[↓reduceIte,q5,q6,q2,It]
  ·simp only[i1,↓reduceIte]
def Km{t:Tree}{cz:Int->Nat}(h:cF t cz 0){f:Int}{s:Bytes}{to:Int}{nm:Bytes}{dF dT m:Node}{e:eM}(k:Hi t cz f s to nm dF dT m e)(i:Int) :
  find (rQ t f s to nm e.ar (fC dT.aK nm)).aa i=if i=to then some { dT with aK:=tu (fO (if to=f then fO dT.aK s else dT.aK) nm) ⟨nm,e.ar,t.ae⟩ }
   else if i=f then some { dF with aK:=fO dF.aK s } else if i=e.ar then some (if m.kind=2 then { m with up:=to } else m) else if i=fC dT.aK nm then It (find t.aa i) else find t.aa i:=by
 have hA:=Qv h k;have aA:=Xj h f s to nm (fC dT.aK nm);have hmn:bO t.aa e.ar=m:=by simp[bO,k.hm]
 have hmi:m.ar=e.ar:=(cr k.hm).2;have hTi:dT.ar=to:=(cr k.hT).2
 have hux:e.ar≠fC dT.aK nm:=by
  cases hfr:eE dT.aK nm with
  |none=>simp only[fC,hfr]; have:=(h.num _ _ k.hm).1; omega
  |some e2=>simp only[fC,hfr]; exact fun hh=>(k.Xn e2 hfr).1 hh.symm
 obtain⟨B,hB,aB,fB⟩:∃B,(if m.kind==2 then eS (ZH t f s to nm (fC dT.aK nm)) { m with up:=to } else ZH t f s to nm (fC dT.aK nm))=B/\ng B /\
   ∀i,find B i=if i=to then some { dT with aK:=fO (if to=f then fO dT.aK s else dT.aK) nm }
    else if i=f then some { dF with aK:=fO dF.aK s } else if i=e.ar then some (if m.kind=2 then { m with up:=to } else m) else if i=fC dT.aK nm then It (find t.aa i) else find t.aa i:=by
  refine⟨_,rfl,?_,?_⟩
  ·split
   ·exact oe aA _
   ·exact aA
  ·intro i;split
   ·rename_i hk;have hk':m.kind=2:=by simpa using hk
    rw[hV aA,hA];simp only[hmi,hk',↓reduceIte]
    by_cases i1:i=e.ar
    ·subst i1; simp only[↓reduceIte,k.ne,k.nf]
    ·simp only[i1,↓reduceIte]
   ·rename_i hk;have hk':¬m.kind=2:=by simpa using hk
    rw[hA];simp only[hk',↓reduceIte]
    by_cases i1:i=e.ar
    ·subst i1; simp only[↓reduceIte,k.ne,k.nf,hux]; exact k.hm
    ·simp only[i1,↓reduceIte]
 have hmv:rQ t f s to nm e.ar (fC dT.aK nm)=hU ⟨B,t.next,t.ae⟩ to nm e.ar:=by
  rw[<-hB];unfold rQ ZH;simp only[hmn]
 rw[hmv];unfold hU;simp only;have hBt:find B to=some { dT with aK:=fO (if to=f then fO dT.aK s else dT.aK) nm }:=by rw[fB]; simp only[↓reduceIte]
 rw[hV aB,hBt];simp only[bQ,hTi]
 by_cases i1:i=to
 ·simp only[i1,↓reduceIte]
 ·simp only[i1,↓reduceIte];rw[fB];simp only[i1,↓reduceIte]
def o6{l:List eM}(h:nJ l){s:Bytes}{e:eM}:eE l s=some e↔e∈l/\e.name=s:=by
 refine⟨eH,fun⟨h1,h2⟩=>?_⟩
 cases hf:eE l s with
 |none =>
  have:=eJ.1 hf e h1;simp[h2] at this
 |some x =>
  obtain⟨x1,x2⟩:=eH hf;obtain⟨i,hi⟩:=bX h1;obtain⟨k,hk⟩:=bX x1;have hil:=(au.1 hi).1;have hkl:=(au.1 hk).1;have e1:l[i]=e:=by rw[ai hil] at hi; injection hi
  have e2:l[k]=x:=by rw[ai hkl] at hk; injection hk
  rcases iQ i k with cA|heq|hgt
  ·have:=cB.1 h _ _ hil hkl cA;rw[e1,e2,h2,x2,gZ] at this; cases this
  ·subst heq; rw[<-e1,<-e2]
  ·have:=cB.1 h _ _ hkl hil hgt;rw[e1,e2,h2,x2,gZ] at this; cases this
def yQ{l:List eM}(h:nJ l){e:eM}(hf:eE l e.name=none)(s:Bytes):eE (tu l e) s=if s=e.name then some e else eE l s:=by
 have ha:=H7 h hf;split
 ·rename_i hs;exact(o6 ha).2 ⟨(xk h hf).2 (.inl rfl),hs.symm⟩
 ·rename_i hs;cases hq:eE l s with
  |none =>
   cases hr:eE (tu l e) s with
   |none=>rfl
   |some x =>
    obtain⟨x1,x2⟩:=eH hr;rcases(xk h hf).1 x1 with rfl|x1
    ·exact absurd x2.symm hs
    ·rw[(o6 h).2 ⟨x1,x2⟩] at hq; cases hq
  |some x =>
   obtain⟨x1,x2⟩:=eH hq;exact(o6 ha).2 ⟨(xk h hf).2 (.inr x1),x2⟩
section
variable {t:Tree} {cz:Int->Nat} {f:Int} {s:Bytes} {to:Int} {nm:Bytes} {dF dT m:Node} {e:eM}
def Hi.bZ(h:cF t cz 0)(k:Hi t cz f s to nm dF dT m e):nJ (fO (if to=f then fO dT.aK s else dT.aK) nm)/\eE (fO (if to=f then fO dT.aK s else dT.aK) nm) nm=none:=by
 have hE:nJ dT.aK:=h.jK.aK dT (cr k.hT).1;refine⟨vk ?_ nm,xb _ _⟩;split
 ·exact vk hE s
 ·exact hE
end
def Way(aa:List Node):Int->List Bytes->Int->Prop
 |i,[],j=>i=j
 |i,s::r,j=>∃d e,find aa i=some d/\d.kind=2/\dB s=true/\eE d.aK s=some e/\Way aa e.ar r j
def uO{aa:List Node}:∀ {L:List Bytes} {i j:Int},qh aa L i=(j,0)↔Way aa i L j
 | [],i,j=>by simp[qh,Way]
 |s::r,i,j=>by
  unfold qh Way;constructor
  ·intro h;split at h
   ·rename_i h0;injection h with _ h
    simp[h] at h0
   ·rename_i h0;obtain⟨d,e,h1,h2,h3,h4,h5⟩:=look_ok (by simpa using h0)
    rw[h5] at h;exact⟨d,e,h1,h2,h3,h4,uO.1 h⟩
  ·rintro⟨d,e,h1,h2,h3,h4,h5⟩;have hl:eB aa i s=(e.ar,0):=by rw[WR h1 h2 h3,h4]
   rw[hl];simpa using uO.2 h5
def nb{aa:List Node}:∀ {A B:List Bytes} {i j:Int},Way aa i (A++B) j↔∃k,Way aa i A k/\Way aa k B j
 | [],B,i,j=>by simp[Way]
 |s::A,B,i,j=>by
  simp only[bp,Way];constructor
  ·rintro⟨d,e,h1,h2,h3,h4,h5⟩;obtain⟨k,k1,k2⟩:=nb.1 h5;exact⟨k,⟨d,e,h1,h2,h3,h4,k1⟩,k2⟩
  ·rintro⟨k,⟨d,e,h1,h2,h3,h4,k1⟩,k2⟩;exact⟨d,e,h1,h2,h3,h4,nb.2 ⟨k,k1,k2⟩⟩
def M5{aa:List Node}{L:List Bytes}{i j k:Int}(h:Way aa i L j)(g:Way aa i L k):j=k:=by
 rw[<-uO] at h g;rw[h] at g; injection g
section
variable {t:Tree} {cz:Int->Nat}
def cF.step(h:cF t cz 0){i:Int}{d:Node}{e:eM}{s:Bytes}(hd:find t.aa i=some d)(he:eE d.aK s=some e):∃m,find t.aa e.ar=some m/\(m.kind=2->m.up=i/\e.ar≠1/\cz e.ar=cz i+1)/\k9 m=false:=by
 obtain⟨e1,_⟩:=eH he;obtain⟨_,_,h1,_,m,hm,hu⟩:=h.sX _ _ e hd e1;refine⟨m,hm,fun hk=>⟨hu hk,h1,?_⟩,?_⟩
 ·have:=(h.sW _ _ hm hk h1).1;rw[hu hk] at this; exact this
 ·have hl:=h.df _ _ hm;have:0<mJ t.aa e.ar:=pS.2 ⟨d,e,(cr hd).1,e1,rfl⟩;have h2:((m.df==0)=false):=by simp; split at hl<;>omega
  simp[k9,h2]
def cF.uN(h:cF t cz 0):∀ {L:List Bytes} {i j:Int} {d n:Node},Way t.aa i L j->find t.aa i=some d->d.kind=2->find t.aa j=some n->n.kind=2->cz j=cz i+L.length
 | [],i,j,_,_,hw,_,_,_,_=>by cases hw; rfl
 |s::r,i,j,d,n,⟨d',e,h1,_,_,h4,h5⟩,_,_,hj,hk=>by
  obtain⟨m,hm,hu,_⟩:=h.step h1 h4
  have hmk:m.kind=2:=by
   cases r with
   |nil=>cases h5; rw[hm] at hj; injection hj with hj; rw[hj]; exact hk
   |cons s' r'=>obtain⟨d2,_,g1,g2,_⟩:=h5; rw[hm] at g1; injection g1 with g1; rw[g1]; exact g2
  have:=h.uN h5 hm hmk hj hk;have:=(hu hmk).2.2;simp only[aD]; omega
def cF.X4(h:cF t cz 0){L:List Bytes}{i j:Int}{d:Node}(hw:Way t.aa i L j)(hi:find t.aa i=some d)(hd:k9 d=false):∃m,find t.aa j=some m/\k9 m=false:=by
 rcases fV L with rfl|⟨A,s,rfl⟩
 ·cases hw; exact⟨d,hi,hd⟩
 ·rw[gP] at hw;obtain⟨k,_,d',e,h1,_,_,h4,h5⟩:=nb.1 hw;obtain⟨m,hm,_,ho⟩:=h.step h1 h4;cases h5;exact⟨m,hm,ho⟩
def Ka{n:Node}(h:n.kind=2):k9 n=false:=by simp[k9,h]
def cF.Cq(h:cF t cz 0):∀(c:Nat){L L':List Bytes}{j:Int}{n:Node},L.length=c->Way t.aa 1 L j->Way t.aa 1 L' j->find t.aa j=some n->n.kind=2->L=L':=by
 obtain⟨r,r1,r2,_⟩:=h.root;intro c;induction c with
 |zero =>
  intro L L' j n hc w w' hj hk;have e1:=h.uN w r1 r2 hj hk;have e2:=h.uN w' r1 r2 hj hk;have:L'.length=0:=aM;rw[cK hc,cK this]
 |succ c ih =>
  intro L L' j n hc w w' hj hk;have e1:=h.uN w r1 r2 hj hk;have e2:=h.uN w' r1 r2 hj hk;rcases fV L with rfl|⟨A,s,rfl⟩
  ·simp at hc
  rcases fV L' with rfl|⟨A',s',rfl⟩
  ·simp at e1 e2 hc; omega
  rw[gP] at *;obtain⟨k,w1,d,e,g1,g2,_,g4,g5⟩:=nb.1 w;obtain⟨k',w1',d',e',g1',g2',_,g4',g5'⟩:=nb.1 w';have g5:e.ar=j:=g5;have g5':e'.ar=j:=g5';obtain⟨m,hm,hu,_⟩:=h.step g1 g4;obtain⟨m',hm',hu',_⟩:=h.step g1' g4';rw[g5,hj] at hm; cases hm;rw[g5',hj] at hm'; cases hm';have hkk:k=k':=(hu hk).1.symm.trans (hu' hk).1;subst hkk;rw[g1] at g1'; cases g1';have hA:=ih (by simpa using hc) w1 w1' g1 g2
  obtain⟨m1,m2⟩:=eH g4;obtain⟨m3,m4⟩:=eH g4'
  suffices e=e' by rw[hA,<-m2,<-m4,this,gP]
  -- one entry
  have hj1:j≠1:=g5▸(hu hk).2.1;have hl:=h.df _ _ hj;rw[h.one _ _ hj hk hj1,aj (by have:=(h.num _ _ hj).1; omega)] at hl
  have hw:=zA h.jK.iW k j;have hd:bO t.aa k=d:=by simp[bO,g1]
  rw[hd] at hw;have h1:jW d.aK j<=1:=aM;unfold jW at h1;obtain⟨x,hx⟩:=bX m1;obtain⟨y,hy⟩:=bX m3;obtain⟨B,C,hBC⟩:=List.append_of_mem m1;rw[hBC] at h1 m3;simp only[List.countP_append,List.countP_cons,g5,iw,aE] at h1;rcases bC.1 m3 with hm|hm
  ·have:0<B.countP (fun z=>z.ar==j):=oE.2 ⟨e',hm,by simp[g5']⟩
   omega
  ·rcases ba.1 hm with hm|hm
   ·exact hm.symm
   ·have:0<C.countP (fun z=>z.ar==j):=oE.2 ⟨e',hm,by simp[g5']⟩
    omega
def cF.sk(h:cF t cz 0){L:List Bytes}{j:Int}(hw:Way t.aa 1 L j):L.length<=12:=by
 obtain⟨r,r1,r2,_⟩:=h.root;rcases fV L with rfl|⟨A,s,rfl⟩
 ·simp
 ·rw[gP] at hw ⊢;obtain⟨k,w1,d,e,g1,g2,_,g4,_⟩:=nb.1 hw;have e1:=h.uN w1 r1 r2 g1 g2;obtain⟨d1,d2⟩:=h.deep _ _ g1 g2
  have:cz k≠12:=fun hh=>by
   have:=(eH g4).1;rw[d2 hh] at this; cases this
  have:=h.zC;simp; omega
end
section
variable {t:Tree} {cz:Int->Nat} {f:Int} {s:Bytes} {to:Int} {nm:Bytes} {dF dT m:Node} {e:eM}
def Hi.step(h:cF t cz 0)(k:Hi t cz f s to nm dF dT m e){i:Int}{d:Node}{c:Bytes}{e':eM}(hd:find t.aa i=some d)(hk:d.kind=2)(he:eE d.aK c=some e')(h1:¬(i=f/\c=s))(h2:¬(i=to/\c=nm)):∃d',find (rQ t f s to nm e.ar (fC dT.aK nm)).aa i=some d'/\d'.kind=2/\eE d'.aK c=some e':=by
 rw[Km h k];obtain⟨b1,b2⟩:=k.bZ h
 by_cases i1:i=to
 ·subst i1;rw[k.hT] at hd; cases hd;refine⟨_,av rfl,k.kT,?_⟩;have hc:c≠nm:=fun hh=>h2 ⟨rfl,hh⟩
  simp only;rw[yQ b1 (e:=⟨nm,e.ar,t.ae⟩) b2];simp only[hc,aC];rw[pF hc];split
  ·rename_i hif;have hcs:c≠s:=fun hh=>h1 ⟨hif,hh⟩
   rw[pF hcs]; exact he
  ·exact he
 rw[aj i1]
 by_cases i2:i=f
 ·subst i2;rw[k.hF] at hd; cases hd;have hcs:c≠s:=fun hh=>h1 ⟨rfl,hh⟩
  exact⟨_,av rfl,k.kF,by simp only; rw[pF hcs]; exact he⟩
 rw[aj i2]
 by_cases i3:i=e.ar
 ·subst i3;rw[k.hm] at hd; cases hd;exact⟨_,av rfl,by simp[hk],by simp only[hk,aE]; exact he⟩
 rw[aj i3]
 by_cases i4:i=fC dT.aK nm
 ·exfalso;cases hfr:eE dT.aK nm with
  |none =>
   simp only[fC,hfr] at i4;have:=(h.num _ _ hd).1; omega
  |some e2 =>
   simp only[fC,hfr] at i4;obtain⟨_,y,y1,y2,_⟩:=k.Xn e2 hfr;rw[i4,y1] at hd; cases hd;rw[y2] at he; cases he
 ·rw[aj i4];exact⟨d,hd,hk,he⟩
end
section
variable {u t:Tree} {cz:Int->Nat}
end
structure Piece where
 aQ:Bytes
 group:Int
 dR:Int
 deriving DecidableEq,Inhabited
structure nz where
 group:Int
 aa:List Node
 deriving DecidableEq,Inhabited
structure rR where
 pieces:List Piece
 dV:List nz
 next:Int
 ae:Int
 deriving DecidableEq,Inhabited
def cI(p:Piece):List ag:=[.str p.aQ,.int .i64 p.group,.int .i64 p.dR]
def dy(p:Piece):ag := .agg (cI p)
abbrev bV(l:List Piece):ag := .slice .sh (l.map dy)
def nS(x:nz):List ag:=[.int .i64 x.group,aV x.aa]
def D5(x:nz):ag := .agg (nS x)
abbrev mf(l:List nz):ag := .slice .sh (l.map D5)
def bL(f:rR):List ag:=[bV f.pieces,mf f.dV,.int .i64 f.next,.int .i64 f.ae]
def iV(f:rR):ag := .agg (bL f)
def AI(a b:List Bytes):k7 (a++b)=k7 a++k7 b:=by simp[k7]
def DP:∀(r cur:Bytes)(out l:List Bytes),wP r cur out=some l->k7 l=k7 out++(47::(cur++r))
 | [],cur,out,l,h=>by
  rw[wP] at h;split at h
  ·cases h
  ·cases h;rw[AI,lu]; simp[k7]
 |b::r,cur,out,l,h=>by
  rw[wP] at h;split at h
  ·rw[DP r _ _ _ h]; simp
  ·rename_i hb
   have hb:b=47:=by
    simp only[jN,ne_eq,kP] at hb;exact iT.1 (by rw[show((47:UInt8).toNat)=47 from rfl]; omega)
   subst hb;split at h
   ·cases h
   ·rw[DP r _ _ _ h,AI,lu]; simp[k7]
def Lj{s:Bytes}{l:List Bytes}(h:jJ s=(l,0)):s=jP l:=by
 unfold jJ at h;split at h
 ·rename_i e;injection h with h _
  subst h; simpa[jP] using e
 ·split at h
  ·cases h
  ·rename_i b r _;split at h
   ·cases h
   ·rename_i hb
    have hb:b=47:=by
     simp only[jN,ne_eq,kP] at hb;exact iT.1 (by rw[show((47:UInt8).toNat)=47 from rfl]; omega)
    subst hb;split at h
    ·cases h
    ·rename_i l' hl;injection h with h _
     subst h;have:=DP _ _ _ _ hl;simp only[k7,List.flatMap_nil,bw] at this;rw[jP,aj (by rintro rfl; simp at this)]
     exact this.symm
def Lk(s:Bytes):jJ s=([],60)\/jJ s=((jJ s).1,0):=by
 unfold jJ;split
 ·exact .inr rfl
 split
 ·exact .inl rfl
 split
 ·exact .inl rfl
 split
 ·exact .inl rfl
 ·exact .inr rfl
def wu(s:Bytes):bI s=([],60)\/bI s=((bI s).1,0):=by
 unfold bI;split
 ·exact .inr rfl
 split
 ·exact .inl rfl
 ·exact .inl rfl
 ·exact .inr rfl
def uB(s:Bytes):jJ s=bI s:=by
 rcases wu s with h|h
 ·rcases Lk s with g|g
  ·rw[h,g]
  ·obtain⟨o1,o2⟩:=Bj s;have:=lg o1 o2;rw[<-Lj g,h] at this;injection this with _ h2
   exact absurd h2 pd
 ·rw[h]; exact UI h
def DX(aa:List Node):∀(L:List Bytes)(a:Int),wz aa L a=qh aa L a
 | [],_=>rfl
 |x::r,a=>by rw[wz,qh,DX aa r]
def Jj(t:Tree)(s:Bytes):sR t.aa s=eW t s:=by
 unfold sR eW;rw[uB,DX]
def ki(a b:Bytes):Bool:=(bI a).2==0&&((bI b).2==0&&(bI a).1.isPrefixOf (bI b).1)
def o9{a b:Bytes}:ki a b=true↔(bI a).2=0/\(bI b).2=0/\(bI a).1 <+: (bI b).1:=by
 simp[ki,ji]
structure kc(l:List Piece):Prop where
 fst:∃p r,l=p::r/\p.aQ=[47]
 many:l.length<=16
 ok:∀p,p∈l->(bI p.aQ).2=0/\0<=p.group/\p.group<8/\1<=p.dR/\p.dR<=1099511627776
 iW:l.Pairwise fun a b=>strLt a.aQ b.aQ=true
abbrev wO(p:Piece):List Bytes:=(bI p.aQ).1
def kc.join{l:List Piece}(h:kc l){p:Piece}(hp:p∈l):p.aQ=jP (wO p):=by
 have:=(h.ok p hp).1;exact xR (ig rfl this)
def rC(s:Bytes):List Piece->Nat->Nat->Nat
 | [],_,b=>b
 |p::r,i,b=>rC s r (i+1) (if ki p.aQ s then i else b)
def dS(l:List Piece)(s:Bytes):Nat:=rC s l 0 0
def xe(s:Bytes):∀(l:List Piece)(i b:Nat),(rC s l i b=b/\∀p,p∈l->ki p.aQ s=false) \/
  ∃j p,rC s l i b=i+j/\l[j]?=some p/\ki p.aQ s=true/\∀k q,l[k]?=some q->ki q.aQ s=true->k<=j
 | [],i,b => .inl ⟨rfl,dk⟩
 |p::r,i,b=>by
  rw[rC]
  by_cases hp:ki p.aQ s=true
  ·rw[av hp];rcases xe s r (i+1) i with ⟨h1,h2⟩|⟨j,q,h1,h2,h3,h4⟩
   ·refine .inr ⟨0,p,by simpa using h1,rfl,hp,fun k q hk hq=>?_⟩
    cases k with
    |zero=>exact ak _
    |succ k =>
     have:=h2 q (aU (by simpa using hk))
     rw[hq] at this; cases this
   ·refine .inr ⟨j+1,q,aM,by simpa using h2,h3,fun k x hk hx=>?_⟩
    cases k with
    |zero=>omega
    |succ k=>have:=h4 k x (by simpa using hk) hx; omega
  ·rw[aj hp];have hp:ki p.aQ s=false:=by simpa using hp
   rcases xe s r (i+1) b with ⟨h1,h2⟩|⟨j,q,h1,h2,h3,h4⟩
   ·refine .inl ⟨h1,fun q hq=>?_⟩
    rcases ba.1 hq with rfl|hq
    ·exact hp
    ·exact h2 q hq
   ·refine .inr ⟨j+1,q,aM,by simpa using h2,h3,fun k x hk hx=>?_⟩
    cases k with
    |zero=>omega
    |succ k=>have:=h4 k x (by simpa using hk) hx; omega
def Cw{s:Bytes}(hs:(bI s).2=0):ki [47] s=true:=by
 rw[o9];exact⟨rfl,hs,by simp[show(bI [47]).1=[] from rfl]⟩
def kc.home{l:List Piece}(h:kc l){s:Bytes}(hs:(bI s).2=0):∃p,l[dS l s]?=some p/\ki p.aQ s=true/\∀k q,l[k]?=some q->ki q.aQ s=true->k<=dS l s:=by
 rcases xe s l 0 0 with ⟨_,h2⟩|⟨j,p,h1,h2,h3,h4⟩
 ·obtain⟨p,r,rfl,hp⟩:=h.fst;have:=h2 p aG;rw[hp,Cw hs] at this; cases this
 ·rw[aN] at h1;unfold dS;rw[h1];exact⟨p,h2,h3,h4⟩
def vo{l:List Piece}(h:kc l){s:Bytes}(hs:(bI s).2=0){j:Nat}{p:Piece}(hp:l[j]?=some p)(ha:ki p.aQ s=true)(hm:∀k q,l[k]?=some q->ki q.aQ s=true->k<=j):dS l s=j:=by
 obtain⟨q,h1,h2,h3⟩:=h.home hs;exact Nat.le_antisymm (hm _ _ h1 h2) (h3 _ _ hp ha)
def Bl:∀(a r:Bytes),r≠[]->strLt a (a++r)=true
 | [],r,h=>by cases r with
  |nil=>exact absurd rfl h
  |cons b r=>rfl
 |x::a,r,h=>by
  rw[bp];simp[strLt,Bl a r h]
def KA{A B:List Bytes}(h:A <+: B)(hne:A≠B)(hn:∀s,s∈B->dB s=true):∃r,r≠[]/\jP B=jP A++r:=by
 obtain⟨C,rfl⟩:=h;cases C with
 |nil=>simp at hne
 |cons c C =>
  cases A with
  |nil =>
   refine⟨c++k7 C,?_,by simp[jP,lu]⟩
   have:=Fl (hn c dk);simp[this]
  |cons a A =>
   refine⟨k7 (c::C),by simp[lu],?_⟩
   rw[jP,aj dk,jP,aj dk,AI]
def Dw(s:Bytes):∀x,x∈(bI s).1->dB x=true:=(lV s).1
def kc.KS{l:List Piece}(h:kc l){s:Bytes}{i j:Nat}{p q:Piece}(hij:i<j)(hp:l[i]?=some p)(hq:l[j]?=some q)(hpa:ki p.aQ s=true)(hqa:ki q.aQ s=true):wO p <+: wO q/\p.aQ.length<=q.aQ.length:=by
 rw[o9] at hpa hqa
 have cA:strLt p.aQ q.aQ=true:=by
  have h1:=cB.1 h.iW i j (aJ hp) (aJ hq) hij;rw[ai (aJ hp)] at hp;rw[ai (aJ hq)] at hq;injection hp with hp; injection hq with hq
  rwa[hp,hq] at h1
 have jp:=h.join (aU hp);have jq:=h.join (aU hq)
 have hpre:wO p <+: wO q:=by
  rcases List.prefix_or_prefix_of_prefix hpa.2.2 hqa.2.2 with g|g
  ·exact g
  ·by_cases he:wO q=wO p
   ·rw[he]; exact iv _
   ·obtain⟨r,hr,e⟩:=KA g he (Dw _);rw[<-jp,<-jq] at e;have:=Bl q.aQ r hr;rw[<-e,pN cA] at this;cases this
 refine⟨hpre,?_⟩
 by_cases he:wO p=wO q
 ·rw[jp,jq,he]; exact ak _
 ·obtain⟨r,_,e⟩:=KA hpre he (Dw _);rw[jp,jq,e]; simp
def kc.only{l:List Piece}(h:kc l){i j:Nat}{p q:Piece}(hp:l[i]?=some p)(hq:l[j]?=some q)(he:p.aQ=q.aQ):i=j:=by
 have key:∀ {i j:Nat} {p q:Piece},l[i]?=some p->l[j]?=some q->p.aQ=q.aQ->¬i<j:=by
  intro i j p q hp hq he hij;have h1:=cB.1 h.iW i j (aJ hp) (aJ hq) hij;rw[ai (aJ hp)] at hp;rw[ai (aJ hq)] at hq;injection hp with hp; injection hq with hq
  rw[hp,hq,he,gZ] at h1;cases h1
 have:=key hp hq he;have:=key hq hp he.symm;omega
def kc.H5{l:List Piece}(h:kc l){j:Nat}{p:Piece}(hp:l[j]?=some p):dS l p.aQ=j:=by
 have hm:=aU hp;have h0:=(h.ok p hm).1;refine vo h h0 hp (o9.2 ⟨h0,h0,iv _⟩) fun k q hk hq=>?_
 rcases bK j k with cA|hge
 ·exfalso;have:=(h.KS cA hp hk (o9.2 ⟨h0,h0,iv _⟩) hq).1;have h2:=(o9.1 hq).2.2;have e:wO p=wO q:=List.IsPrefix.eq_of_length this (Nat.le_antisymm this.length_le h2.length_le);have:=h.only hp hk (by rw[h.join hm,h.join (aU hk),e])
  omega
 ·exact hge
def kc.V8{l:List Piece}(h:kc l){L:List Bytes}{x:Bytes}(hL:∀s,s∈L++[x]->dB s=true)(hl:(L++[x]).length<=12)(hno:∀p,p∈l->p.aQ≠jP (L++[x])):dS l (jP (L++[x]))=dS l (jP L):=by
 have s1:=lg hL hl;have s2:=lg (l:=L) (fun s hs=>hL s (fG _ hs)) (by simp at hl; omega)
 obtain⟨p,h1,h2,h3⟩:=h.home (s:=jP L) (by rw[s2])
 have key:∀q,q∈l->(ki q.aQ (jP (L++[x]))=true↔ki q.aQ (jP L)=true):=by
  intro q hq;rw[o9,o9,s1,s2];constructor
  ·rintro⟨a1,_,a3⟩;refine⟨a1,rfl,?_⟩;rcases List.prefix_concat_iff.1 a3 with e|e
   ·exact absurd (by rw[h.join hq,wO,e]) (hno q hq)
   ·exact e
  ·rintro⟨a1,_,a3⟩;exact⟨a1,rfl,a3.trans (mn _ _)⟩
 exact vo h (by rw[s1]) h1 ((key p (aU h1)).2 h2) fun k q hk hq=>h3 k q hk ((key q (aU hk)).1 hq)
abbrev SM:=List (Bytes×Int)
def yk:SM->Bytes->Option Int
 | [],_=>none
 |(k',v)::l,k=>if k=k' then some v else yk l k
def G3:SM->Bytes->Int->SM
 | [],k,v=>[(k,v)]
 |(k',v')::l,k,v=>if k=k' then (k,v)::l else (k',v')::G3 l k v
def Bg:∀(l:SM)(k:Bytes)(v:Int)(j:Bytes),yk (G3 l k v) j=if j=k then some v else yk l j
 | [],k,v,j=>by simp only[G3,yk]
 |(k',v')::l,k,v,j=>by
  simp only[G3];split
  ·rename_i h;subst h;simp only[yk];split<;>rfl
  ·rename_i h;simp only[yk];split
   ·rename_i h2;rw[aj (fun hh=>h (hh.symm.trans h2))]
   ·exact Bg l k v j
def tE:List Piece->Int->SM->SM
 | [],_,m=>m
 |p::r,i,m=>tE r (i+1) (G3 m p.aQ i)
def mh(l:List Piece):SM:=tE l 0 []
def y9:∀(l:List Piece)(i:Int)(m:SM)(s:Bytes),(∀p,p∈l->p.aQ≠s)->yk (tE l i m) s=yk m s
 | [],_,_,_,_=>rfl
 |p::r,i,m,s,h=>by
  rw[tE,y9 r _ _ s fun q hq=>h q (aP _ hq),Bg,aj (fun e=>h p aG e.symm)]
def DJ:∀(l:List Piece)(i:Int)(m:SM)(j:Nat)(p:Piece),l[j]?=some p->(∀k q,l[k]?=some q->q.aQ=p.aQ->k=j)->yk (tE l i m) p.aQ=some (i+j)
 | [],_,_,_,_,h,_=>by simp at h
 |q::r,i,m,0,p,h,ho=>by
  simp only[eu,iR] at h;subst h;rw[tE,y9 r _ _ _ ?_,Bg,av rfl]
  ·simp
  ·intro x hx e;obtain⟨k,hk⟩:=bX hx;have:=ho (k+1) x (by simpa using hk) e
   omega
 |q::r,i,m,j+1,p,h,ho=>by
  rw[tE,DJ r (i+1) _ j p (by simpa using h) fun k x hk hx=>by
   have:=ho (k+1) x (by simpa using hk) hx; omega]
  congr 1; omega
def kc.XM{l:List Piece}(h:kc l)(s:Bytes):(∃(j:Nat) (p:Piece),l[j]?=some p/\p.aQ=s/\yk (mh l) s=some (j:Int))\/((∀p,p∈l->p.aQ≠s)/\yk (mh l) s=none):=by
 by_cases hp:∃p,p∈l/\p.aQ=s
 ·obtain⟨p,hm,rfl⟩:=hp;obtain⟨j,hj⟩:=bX hm;have:=DJ l 0 [] j p hj fun k q hk he=>h.only hk hj he
  exact .inl ⟨j,p,hj,rfl,by rw[mh,this]; simp⟩
 ·have hno:∀p,p∈l->p.aQ≠s:=fun p hm e=>hp ⟨p,hm,e⟩
  exact .inr ⟨hno,by rw[mh,y9 l 0 [] s hno]; rfl⟩
structure Hm where
 jF:AM Int
 met:Int
 whole:Bool
def oX(rec:Int->List Bytes->Hm->Hm)(aa:List Node)(roots:SM)(ar:Int)(aQ:List Bytes)(s:Hm)(e:eM):Hm :=
 if (bO aa e.ar).kind==1 then ⟨kL s.jF e.ar ((dx s.jF ar).getD 0),s.met,s.whole&&(!((dx s.jF e.ar).isSome)||(dx s.jF e.ar).getD 0==(dx s.jF ar).getD 0)⟩
 else match yk roots (mu (aQ++[e.name])) with
  |none=>rec e.ar (aQ++[e.name]) ⟨kL s.jF e.ar ((dx s.jF ar).getD 0),s.met,s.whole⟩
  |some a=>rec e.ar (aQ++[e.name]) ⟨kL (kL s.jF e.ar ((dx s.jF ar).getD 0)) e.ar a,nc (s.met+1),s.whole⟩
def mb(aa:List Node)(roots:SM):Nat->Int->List Bytes->Hm->Hm
 |0,_,_,s=>s
 |f+1,ar,aQ,s=>(bO aa ar).aK.foldl (oX (mb aa roots f) aa roots ar aQ) s
def tb(l:List Piece)(aa:List Node):Hm:=mb aa (mh l) 14 1 [] ⟨[(1,0)],1,true⟩
def kU(l:List Piece)(aa:List Node):AM Int×Bool :=
 ((tb l aa).jF,(tb l aa).whole&&((tb l aa).met==(l.length:Int)&&((tb l aa).jF.length:Int)==(aa.length:Int)))
section
variable {t:Tree} {cz:Int->Nat} {l:List Piece}
def cF.G8(h:cF t cz 0):∀(c:Nat)(i:Int)(n:Node),find t.aa i=some n->n.kind=2->cz i=c->∃L,Way t.aa 1 L i/\L.length=c:=by
 intro c;induction c with
 |zero =>
  intro i n hi hk hc
  by_cases h1:i=1
  ·exact⟨[],by simp[Way,h1],rfl⟩
  ·have:=(h.sW _ _ hi hk h1).1; omega
 |succ c ih =>
  intro i n hi hk hc;have h1:i≠1:=by rintro rfl; rw[h.zC] at hc; cases hc
  obtain⟨hd,p,hp,hpk⟩:=h.sW _ _ hi hk h1;obtain⟨L,hL,hl⟩:=ih n.up p hp hpk aM;obtain⟨p',e,hp',_,he,hei⟩:=h.named hi hk h1 (by have:=(h.num _ _ hi).1; omega)
  rw[hp] at hp'; cases hp';refine⟨L++[e.name],nb.2 ⟨n.up,hL,p,e,hp,hpk,?_,?_,by simpa[Way] using hei⟩,by simp[hl]⟩
  ·exact(h.sX _ _ _ hp he).2.2.2.1
  ·exact(o6 (h.jK.aK _ (cr hp).1)).2 ⟨he,rfl⟩
def oc{aa:List Node}:∀ {L:List Bytes} {i j:Int},Way aa i L j->∀s,s∈L->dB s=true
 | [],_,_,_,s,hs=>by cases hs
 |x::L,i,j,⟨d,e,_,_,h3,_,h5⟩,s,hs=>by
  rcases ba.1 hs with rfl|hs
  ·exact h3
  ·exact oc h5 s hs
def Dh(l:List Piece)(aa:List Node)(i:Int)(v:Int):Prop:=∃L,Way aa 1 L i/\v=dS l (jP L)
def cF.CP(h:cF t cz 0){i v w:Int}{n:Node}(hi:find t.aa i=some n)(hk:n.kind=2)(a:Dh l t.aa i v)(b:Dh l t.aa i w):v=w:=by
 obtain⟨L,h1,rfl⟩:=a;obtain⟨L',h2,rfl⟩:=b;rw[h.Cq L.length rfl h1 h2 hi hk]
structure va(l:List Piece)(aa:List Node)(k v:Int):Prop where
 dir:∀n,find aa k=some n->n.kind=2->Dh l aa k v
 file:∀n,find aa k=some n->n.kind=1->∃d e,find aa d.ar=some d/\d.kind=2/\e∈d.aK/\e.ar=k/\Dh l aa d.ar v
 ex:∃n,find aa k=some n
def aap(l:List Piece)(aa:List Node):Prop:=∀d e d' e' n v w,find aa d.ar=some d->e∈d.aK->find aa d'.ar=some d'->e'∈d'.aK->e.ar=e'.ar->find aa e.ar=some n->n.kind=1->Dh l aa d.ar v->Dh l aa d'.ar w->v=w
theorem IT{α:Type}:∀(m:AM α)(k:Int)(v:α)(x:Int),x∈(kL m k v).map Prod.fst↔x=k\/x∈m.map Prod.fst
 | [],k,v,x=>by simp[kL]
 |(k',v')::m,k,v,x=>by
  simp only[kL];split
  ·rename_i h; subst h; simp
  ·have:=IT m k v x;simp only[a8,ba,this]
   grind
def uo{α:Type}:∀(m:AM α)(k:Int)(v:α),(m.map Prod.fst).Nodup->((kL m k v).map Prod.fst).Nodup
 | [],k,v,_=>by simp[kL]
 |(k',v')::m,k,v,h=>by
  simp only[a8,iK] at h;simp only[kL];split
  ·rename_i he; subst he; simpa using h
  ·rename_i he;simp only[a8,iK];refine⟨fun hx=>?_,uo m k v h.2⟩
   rcases(IT m k v k').1 hx with e|hx
   ·exact he e.symm
   ·exact h.1 hx
def xZ{α:Type}:∀(m:AM α)(k:Int),k∈m.map Prod.fst↔∃v,dx m k=some v
 | [],k=>by simp[dx]
 |(k',v')::m,k=>by
  simp only[dx,a8,ba,xZ m k];split
  ·rename_i h; simp[h]
  ·rename_i h; simp[h]
structure Down(l:List Piece)(aa:List Node)(ar:Int)(aQ:List Bytes)(es:List eM)(s s':Hm)(ms:List (List Bytes)):Prop where
 Iu:∀k v,dx s'.jF k=some v->va l aa k v
 nd:(s'.jF.map Prod.fst).Nodup
 keys:∀k v,dx s.jF k=some v->∃w,dx s'.jF k=some w
 all:∀e,e∈es->∃w,dx s'.jF e.ar=some w
 new:∀k v,dx s'.jF k=some v->(∃w,dx s.jF k=some w)\/((∀e,e∈(bO aa k).aK->∃w,dx s'.jF e.ar=some w)/\(s'.whole=true->∀e n,e∈(bO aa k).aK->find aa e.ar=some n->n.kind=1->∀u,Dh l aa k u->dx s'.jF e.ar=some u))
 wh:s'.whole=true->s.whole=true
 fix:s'.whole=true->∀k n v,find aa k=some n->n.kind=1->dx s.jF k=some v->dx s'.jF k=some v
 own:s'.whole=true->∀e n,e∈es->find aa e.ar=some n->n.kind=1->∀u,Dh l aa ar u->dx s'.jF e.ar=some u
 one:aap l aa->s.whole=true->s'.whole=true
 met:s'.met=s.met+ms.length
 mnd:ms.Nodup
 Mu:∀L,L∈ms->∃e B z n p,e∈es/\L=aQ++e.name::B/\Way aa 1 L z/\find aa z=some n/\n.kind=2/\p∈l/\p.aQ=jP L
 Ou:∀e B z n p,e∈es->Way aa 1 (aQ++e.name::B) z->find aa z=some n->n.kind=2->p∈l->p.aQ=jP (aQ++e.name::B)->aQ++e.name::B∈ms
def Met(l:List Piece)(aQ:List Bytes)(es:List eM)(s:Hm):Prop:=∃m0:List (List Bytes),s.met=1+m0.length/\m0.Nodup/\(∀L,L∈m0->L∈l.map wO)/\∀L,L∈m0->¬ ∃e B,e∈es/\L=aQ++e.name::B
def kc.pathIn(hl:kc l){L:List Bytes}{p:Piece}(hn:∀s,s∈L->dB s=true)(h12:L.length<=12)(hp:p∈l)(he:p.aQ=jP L):L∈l.map wO :=
 cm.2 ⟨p,hp,by rw[wO,he,lg hn h12]⟩
def adv(hl:kc l){m0:List (List Bytes)}(h1:m0.Nodup)(h2:∀L,L∈m0->L∈l.map wO):m0.length<=16:=by
 have:=uq m0 (l.map wO) h1 h2;have:=hl.many;simp at *; omega
def Down.nil{ar:Int}{aQ:List Bytes}{s:Hm}(h1:∀k v,dx s.jF k=some v->va l t.aa k v)(h2:(s.jF.map Prod.fst).Nodup):Down l t.aa ar aQ [] s s [] :=
 ⟨h1,h2,fun k v h=>⟨v,h⟩,fun e he=>(nomatch he),fun k v h => .inl ⟨v,h⟩,fun h=>h,fun _ _ _ _ _ _ h=>h,fun _ e n he=>(nomatch he),fun _ h=>h,dk,kY,fun L hL=>(nomatch hL),fun e B z n p he=>(nomatch he)⟩
def Down.file(h:cF t cz 0){ar v0:Int}{aQ:List Bytes}{d:Node}{e:eM}{r:List eM}{s s':Hm}{ms:List (List Bytes)}{n:Node}(hd:find t.aa ar=some d)(he:e∈d.aK)(hn:find t.aa e.ar=some n)(hk:n.kind=1)
  (hv:dx s.jF ar=some v0) (hv0:Dh l t.aa ar v0) (hL:∀k v,dx s.jF k=some v->va l t.aa k v)
  (hw:Way t.aa 1 aQ ar)
  (g:Down l t.aa ar aQ r ⟨kL s.jF e.ar v0,s.met,s.whole&&(!((dx s.jF e.ar).isSome)||(dx s.jF e.ar).getD 0==v0)⟩ s' ms):Down l t.aa ar aQ (e::r) s s' ms:=by
 have hdk:d.kind=2:=by
  rcases h.kind _ _ hd with h1|h1
  ·rw[(h.file _ _ hd h1).1] at he; cases he
  ·exact h1
 have hdi:=h.ar hd
 have sw:s'.whole=true->s.whole=true/\∀v,dx s.jF e.ar=some v->v=v0:=fun hs=>by
  have:=g.wh hs;simp only[bm,cV,gF,eG] at this;refine⟨this.1,fun v hv=>?_⟩
  rw[hv] at this;simpa using this.2
 refine⟨g.Iu,g.nd,fun k v hk'=>?_,fun e' he'=>?_,fun k v hk'=>?_,fun hs=>(sw hs).1,fun hs k m v hm hmk hkv=>?_,fun hs e' m he' hm hmk u hu=>?_,fun ho hs=>?_,g.met,g.mnd,fun L hL=>?_,fun e' B z m p he' hw' hm hmk hp hpj=>?_⟩
 ·by_cases hke:k=e.ar
  ·exact g.keys k v0 (by simp[fN,hke])
  ·exact g.keys k v (by simp[fN,hke,hk'])
 ·rcases ba.1 he' with rfl|he'
  ·exact g.keys _ v0 (by simp[fN])
  ·exact g.all e' he'
 ·rcases g.new k v hk' with ⟨w,hw'⟩|hc
  ·by_cases hke:k=e.ar
   ·right;have hne:(bO t.aa k).aK=[]:=by rw[hke]; simp[bO,hn,(h.file _ _ hn hk).1]
    rw[hne];exact⟨fun _ he1=>(nomatch he1),fun _ _ m he1=>(nomatch he1)⟩
   ·simp only[fN,hke,aC] at hw';exact .inl ⟨w,hw'⟩
  ·exact .inr hc
 ·refine g.fix hs k m v hm hmk ?_
  by_cases hke:k=e.ar
  ·rw[hke] at hkv;simp[fN,hke,(sw hs).2 v hkv]
  ·simp[fN,hke,hkv]
 ·rcases ba.1 he' with rfl|he'
  ·have:u=v0:=h.CP hd hdk hu hv0;subst this;exact g.fix hs _ m _ hm hmk (by simp[fN])
  ·exact g.own hs e' m he' hm hmk u hu
 ·refine g.one ho ?_;simp only[hs,b9,cV,gF,eG];cases hme:dx s.jF e.ar with
  |none=>exact .inl rfl
  |some w =>
   right;obtain⟨d',e',hd',_,he',hei,hD⟩:=(hL _ _ hme).file n hn hk;exact(ho d e d' e' n v0 w (by rw[hdi]; exact hd) he hd' he' hei.symm hn hk (by rw[hdi]; exact hv0) hD).symm
 ·obtain⟨e',B,z,m,p,q1,q2⟩:=g.Mu L hL;exact⟨e',B,z,m,p,aP _ q1,q2⟩
 ·rcases ba.1 he' with rfl|he'
  ·exfalso;have hfe:=(o6 (h.jK.aK _ (cr hd).1)).2 ⟨he,rfl⟩;obtain⟨k,k1,k2⟩:=nb.1 hw';have:=M5 k1 hw;subst this;obtain⟨d',e'',a1,a2,a3,a4,a5⟩:=k2;rw[hd] at a1; cases a1;rw[hfe] at a4; cases a4;cases B with
   |nil =>
    simp only[Way] at a5;subst a5;rw[hn] at hm; cases hm;rw[hk] at hmk; cases hmk
   |cons b B =>
    obtain⟨d2,_,b1,b2,_⟩:=a5;rw[hn] at b1; cases b1;rw[hk] at b2; cases b2
  ·exact g.Ou e' B z m p he' hw' hm hmk hp hpj
def Down.dir(h:cF t cz 0){ar:Int}{aQ:List Bytes}{d:Node}{e:eM}{r:List eM}{s s1 s2 s':Hm}{mp m1 m2:List (List Bytes)}{n:Node}(hd:find t.aa ar=some d)(he:e∈d.aK)(hn:find t.aa e.ar=some n)(hk:n.kind=2)
  (hw:Way t.aa 1 aQ ar) (hnd:∀x,x∈r->x.name≠e.name)
  (i1:∀k,k≠e.ar->dx s1.jF k=dx s.jF k) (i2:∃w,dx s1.jF e.ar=some w) (i3:s1.whole=s.whole) (i4:s1.met=s.met+mp.length)
  (i5:mp.Nodup/\∀L,L∈mp↔L=aQ++[e.name]/\∃p,p∈l/\p.aQ=jP L)
  (g1:Down l t.aa e.ar (aQ++[e.name]) n.aK s1 s2 m1) (g:Down l t.aa ar aQ r s2 s' m2):Down l t.aa ar aQ (e::r) s s' (mp++m1++m2):=by
 have hne:(bO t.aa e.ar).aK=n.aK:=by simp[bO,hn]
 have k12:∀k v,dx s.jF k=some v->∃w,dx s1.jF k=some w:=fun k v hv=>by
  by_cases hke:k=e.ar
  ·rw[hke]; exact i2
  ·exact⟨v,by rw[i1 k hke]; exact hv⟩
 have up:∀k v,dx s1.jF k=some v->∃w,dx s'.jF k=some w:=fun k v hv=>by
  obtain⟨w,hw⟩:=g1.keys k v hv;exact g.keys k w hw
 have wayE:Way t.aa 1 (aQ++[e.name]) e.ar:=nb.2 ⟨ar,hw,d,e,hd,by
  rcases h.kind _ _ hd with h1|h1
  ·rw[(h.file _ _ hd h1).1] at he; cases he
  ·exact h1,(h.sX _ _ _ hd he).2.2.2.1,(o6 (h.jK.aK _ (cr hd).1)).2 ⟨he,rfl⟩,rfl⟩
 refine⟨g.Iu,g.nd,fun k v hk'=>?_,fun e' he'=>?_,fun k v hk'=>?_,fun hs=>?_,fun hs k m v hm hmk hkv=>?_,fun hs e' m he' hm hmk u hu=>?_,fun ho hs=>?_,?_,?_,fun L hL=>?_,fun e' B z m p he' hw' hm hmk hp hpj=>?_⟩
 ·obtain⟨w,hw⟩:=k12 k v hk';exact up k w hw
 ·rcases ba.1 he' with rfl|he'
  ·obtain⟨w,hw⟩:=i2; exact up _ w hw
  ·exact g.all e' he'
 ·rcases g.new k v hk' with ⟨w,hw'⟩|hc
  ·rcases g1.new k w hw' with ⟨w2,hw2⟩|⟨c1,c2⟩
   ·by_cases hke:k=e.ar
    ·right;rw[hke,hne];refine⟨fun e' he'=>?_,fun hs e' m he' hm hmk u hu=>?_⟩
     ·obtain⟨x,hx⟩:=g1.all e' he';exact g.keys _ x hx
     ·exact g.fix hs _ m _ hm hmk (g1.own (g.wh hs) e' m he' hm hmk u hu)
    ·rw[i1 k hke] at hw2;exact .inl ⟨w2,hw2⟩
   ·right;refine⟨fun e' he'=>?_,fun hs e' m he' hm hmk u hu=>?_⟩
    ·obtain⟨x,hx⟩:=c1 e' he';exact g.keys _ x hx
    ·exact g.fix hs _ m _ hm hmk (c2 (g.wh hs) e' m he' hm hmk u hu)
  ·exact .inr hc
 ·have:=g1.wh (g.wh hs); rw[<-i3]; exact this
 ·refine g.fix hs k m v hm hmk (g1.fix (g.wh hs) k m v hm hmk ?_);rw[i1 k ?_]
  ·exact hkv
  ·rintro rfl;rw[hn] at hm; cases hm;rw[hk] at hmk; cases hmk
 ·rcases ba.1 he' with rfl|he'
  ·rw[hn] at hm; cases hm;rw[hk] at hmk; cases hmk
  ·exact g.own hs e' m he' hm hmk u hu
 ·exact g.one ho (g1.one ho (by rw[i3]; exact hs))
 ·rw[g.met,g1.met,i4]; simp; omega
 ·refine kR.2 ⟨kR.2 ⟨i5.1,g1.mnd,fun a ha b hb=>?_⟩,g.mnd,fun a ha b hb=>?_⟩
  ·rintro rfl;obtain⟨rfl,_⟩:=(i5.2 a).1 ha;obtain⟨e',B,_,_,_,_,q,_⟩:=g1.Mu _ hb;have:=congrArg List.length q;simp at this
  ·rintro rfl;obtain⟨e2,B2,_,_,_,q1,q2,_⟩:=g.Mu _ hb;rcases bC.1 ha with ha|ha
   ·obtain⟨q3,_⟩:=(i5.2 a).1 ha;rw[q2] at q3;have:=iJ q3;injection this with this _
    exact hnd e2 q1 this
   ·obtain⟨e',B,_,_,_,_,q,_⟩:=g1.Mu _ ha;rw[q2,dW] at q;have:=iJ q;rw[bp] at this;injection this with this _
    exact hnd e2 q1 this
 ·rcases bC.1 hL with hL|hL
  ·rcases bC.1 hL with hL|hL
   ·obtain⟨rfl,p,hp,hpj⟩:=(i5.2 L).1 hL;exact⟨e,[],e.ar,n,p,aG,rfl,wayE,hn,hk,hp,hpj⟩
   ·obtain⟨e',B,z,m,p,q1,q2,q3⟩:=g1.Mu L hL;exact⟨e,e'.name::B,z,m,p,aG,by rw[q2]; simp,q3⟩
  ·obtain⟨e',B,z,m,p,q1,q2⟩:=g.Mu L hL;exact⟨e',B,z,m,p,aP _ q1,q2⟩
 ·rcases ba.1 he' with rfl|he'
  ·rw[dW];cases B with
   |nil=>exact fG _ ((i5.2 _).2 ⟨rfl,p,hp,hpj⟩)
   |cons b B =>
    refine iu _ (fG _ ?_);have e0:aQ++e'.name::b::B=(aQ++[e'.name])++b::B:=dk;rw[e0] at hw' hpj ⊢;obtain⟨k,k1,k2⟩:=nb.1 hw';have:=M5 k1 wayE;subst this;obtain⟨d2,e2,b1,b2,b3,b4,b5⟩:=k2;rw[hn] at b1; cases b1;obtain⟨m1',m2'⟩:=eH b4;rw[<-m2'] at hw' hpj ⊢;exact g1.Ou e2 B z m p m1' hw' hm hmk hp hpj
  ·exact iu _ (g.Ou e' B z m p he' hw' hm hmk hp hpj)
def NK(h:cF t cz 0)(hl:kc l):∀(f:Nat)(ar:Int)(aQ:List Bytes)(s:Hm)(d:Node)(v0:Int),find t.aa ar=some d->d.kind=2->13<f+cz ar->Way t.aa 1 aQ ar->dx s.jF ar=some v0 ->
  (∀k v,dx s.jF k=some v->va l t.aa k v)->(s.jF.map Prod.fst).Nodup->Met l aQ d.aK s->∃ms,Down l t.aa ar aQ d.aK s (mb t.aa (mh l) f ar aQ s) ms:=by
 intro f;induction f with
 |zero =>
  intro ar aQ s d v0 hd hk hf;have:=(h.deep _ _ hd hk).1; omega
 |succ f ih =>
  intro ar aQ s d v0 hd hk hf hw hv hL hnd hM;have hne:(bO t.aa ar).aK=d.aK:=by simp[bO,hd]
  have hasc:=h.jK.aK _ (cr hd).1;rw[mb,hne]
  have key:∀(es:List eM)(s:Hm)(v0:Int),(∀e,e∈es->e∈d.aK)->es.Pairwise (fun a b=>b.name≠a.name)->dx s.jF ar=some v0->(∀k v,dx s.jF k=some v->va l t.aa k v)->(s.jF.map Prod.fst).Nodup->Met l aQ es s ->
    ∃ms,Down l t.aa ar aQ es s (es.foldl (oX (mb t.aa (mh l) f) t.aa (mh l) ar aQ) s) ms:=by
   intro es;induction es with
   |nil=>intro s v0 _ _ _ hL hnd _; exact⟨[],Down.nil hL hnd⟩
   |cons e r ihl =>
    intro s v0 hs hp hv hL hnd hM;rw[bB];have he:=hs e aG;have hr:=fun x hx=>hs x (aP _ hx)
    obtain⟨hp1,hp2⟩:=bR.1 hp;obtain⟨_,_,e1,hnm,m,hm,hu⟩:=h.sX _ _ _ hd he;have hD0:Dh l t.aa ar v0:=(hL _ _ hv).dir d hd hk;have hmn:bO t.aa e.ar=m:=by simp[bO,hm]
    obtain⟨m0,t1,t2,t3,t4⟩:=hM;rcases h.kind _ _ hm with hmk|hmk
    ·have hst:oX (mb t.aa (mh l) f) t.aa (mh l) ar aQ s e=⟨kL s.jF e.ar v0,s.met,s.whole&&(!((dx s.jF e.ar).isSome)||(dx s.jF e.ar).getD 0==v0)⟩:=by
      unfold oX;rw[av (by simp[hmn,hmk]),hv]; rfl
     rw[hst]
     have hL':∀k v,dx (kL s.jF e.ar v0) k=some v->va l t.aa k v:=fun k v hkv=>by
      rw[fN] at hkv;split at hkv
      ·rename_i hke;cases hkv; subst hke;refine⟨fun n hn hnk=>?_,fun n hn hnk=>⟨d,e,by rw[h.ar hd]; exact hd,hk,he,rfl,by rw[h.ar hd]; exact hD0⟩,⟨m,hm⟩⟩
       rw[hm] at hn; cases hn;rw[hmk] at hnk; cases hnk
      ·exact hL k v hkv
     obtain⟨v1,hv1⟩:∃v1,dx (kL s.jF e.ar v0) ar=some v1:=by
      rw[fN];split
      ·exact⟨_,rfl⟩
      ·exact⟨_,hv⟩
     obtain⟨ms,g⟩:=ihl ⟨kL s.jF e.ar v0,s.met,s.whole&&(!((dx s.jF e.ar).isSome)||(dx s.jF e.ar).getD 0==v0)⟩ v1 hr hp2 hv1 hL' (uo _ _ _ hnd) ⟨m0,t1,t2,t3,fun L hL ⟨x,B,hx,e⟩=>t4 L hL ⟨x,B,aP _ hx,e⟩⟩
     exact⟨ms,Down.file h hd he hm hmk hv hD0 hL hw g⟩
    ·have wayE:Way t.aa 1 (aQ++[e.name]) e.ar:=nb.2 ⟨ar,hw,d,e,hd,hk,hnm,(o6 hasc).2 ⟨he,rfl⟩,rfl⟩;have hdep:=(h.sW _ _ hm hmk e1).1;rw[hu hmk] at hdep;have hnms:=oc wayE;have h12:=h.sk wayE;obtain⟨L0,w0,rfl⟩:=hD0;have:L0=aQ:=h.Cq L0.length rfl w0 hw hd hk;subst this;have hk1:((bO t.aa e.ar).kind==1)=false:=by simp[hmn,hmk]
     have fin:∀(s1:Hm) (mp:List (List Bytes)) (w:Int),oX (mb t.aa (mh l) f) t.aa (mh l) ar L0 s e=mb t.aa (mh l) f e.ar (L0++[e.name]) s1 ->
       (∀k,k≠e.ar->dx s1.jF k=dx s.jF k)->dx s1.jF e.ar=some w->w=dS l (jP (L0++[e.name]))->s1.whole=s.whole->s1.met=s.met+mp.length->(s1.jF.map Prod.fst).Nodup ->
       (mp.Nodup/\∀L,L∈mp↔L=L0++[e.name]/\∃p,p∈l/\p.aQ=jP L) ->
       ∃ms,Down l t.aa ar L0 (e::r) s (r.foldl (oX (mb t.aa (mh l) f) t.aa (mh l) ar L0) (oX (mb t.aa (mh l) f) t.aa (mh l) ar L0 s e)) ms:=by
      intro s1 mp w q0 q1 q2 q3 q4 q5 q6 q7;rw[q0]
      have hL1:∀k v,dx s1.jF k=some v->va l t.aa k v:=fun k v hkv=>by
       by_cases hke:k=e.ar
       ·subst hke;rw[q2] at hkv; cases hkv;refine⟨fun n hn hnk=>⟨_,wayE,q3⟩,fun n hn hnk=>?_,⟨m,hm⟩⟩
        rw[hm] at hn; cases hn;rw[hmk] at hnk; cases hnk
       ·rw[q1 k hke] at hkv; exact hL k v hkv
      have hmp1:∀L,L∈mp->L∈l.map wO:=fun L hLm=>by
       obtain⟨rfl,p,hp,hpj⟩:=(q7.2 L).1 hLm;exact hl.pathIn hnms h12 hp hpj
      have hnod:(m0++mp).Nodup:=kR.2 ⟨t2,q7.1,fun a ha b hb=>by
       rintro rfl;obtain⟨rfl,_⟩:=(q7.2 a).1 hb;exact t4 _ ha ⟨e,[],aG,rfl⟩⟩
      obtain⟨ms1,g1⟩:=ih e.ar (L0++[e.name]) s1 m w hm hmk aM wayE q2 hL1 q6 ⟨m0++mp,by rw[q5,t1]; simp; omega,hnod,fun L hLm=>(bC.1 hLm).elim (t3 L) (hmp1 L),fun L hLm ⟨x,B,hx,ex⟩=>by
       rcases bC.1 hLm with hLm|hLm
       ·exact t4 L hLm ⟨e,x.name::B,aG,by rw[ex]; simp⟩
       ·obtain⟨rfl,_⟩:=(q7.2 L).1 hLm;have:=congrArg List.length ex;simp at this⟩
      generalize mb t.aa (mh l) f e.ar (L0++[e.name]) s1=s2 at g1 ⊢
      obtain⟨v2,hv2⟩:∃v2,dx s2.jF ar=some v2:=by
       by_cases hie:ar=e.ar
       ·rw[hie]; exact g1.keys _ w q2
       ·exact g1.keys _ _ (by rw[q1 _ hie]; exact hv)
      have hms1:∀L,L∈ms1->L∈l.map wO:=fun L hLm=>by
       obtain⟨_,_,z,_,p,_,_,hwz,_,_,hp,hpj⟩:=g1.Mu L hLm;exact hl.pathIn (oc hwz) (h.sk hwz) hp hpj
      obtain⟨ms2,g2⟩:=ihl s2 v2 hr hp2 hv2 g1.Iu g1.nd ⟨m0++mp++ms1,by rw[g1.met,q5,t1]; simp; omega,kR.2 ⟨hnod,g1.mnd,fun a ha b hb=>by
        rintro rfl;obtain⟨x,B,_,_,_,_,ex,_⟩:=g1.Mu _ hb;rcases bC.1 ha with ha|ha
        ·exact t4 _ ha ⟨e,x.name::B,aG,by rw[ex]; simp⟩
        ·obtain⟨rfl,_⟩:=(q7.2 a).1 ha;have:=congrArg List.length ex;simp at this⟩,fun L hLm=>by
        rcases bC.1 hLm with hLm|hLm
        ·exact(bC.1 hLm).elim (t3 L) (hmp1 L)
        ·exact hms1 L hLm,fun L hLm ⟨x,B,hx,ex⟩=>by
        rcases bC.1 hLm with hLm|hLm
        ·rcases bC.1 hLm with hLm|hLm
         ·exact t4 L hLm ⟨x,B,aP _ hx,ex⟩
         ·obtain⟨rfl,_⟩:=(q7.2 L).1 hLm;have:=iJ ex;injection this with this _
          exact hp1 x hx this.symm
        ·obtain⟨y,B',_,_,_,_,ey,_⟩:=g1.Mu _ hLm;rw[ey,dW] at ex;have:=iJ ex;rw[bp] at this;injection this with this _
         exact hp1 x hx this.symm⟩
      exact⟨mp++ms1++ms2,Down.dir h hd he hm hmk hw (fun x hx=>hp1 x hx) q1 ⟨w,q2⟩ q4 q5 q7 g1 g2⟩
     have jn:mu (L0++[e.name])=jP (L0++[e.name]):=qF _;rcases hl.XM (jP (L0++[e.name])) with ⟨j,p,hj,hpj,hg⟩|⟨hno,hg⟩
     ·refine fin ⟨kL (kL s.jF e.ar ((dx s.jF ar).getD 0)) e.ar j,nc (s.met+1),s.whole⟩ [L0++[e.name]] j ?_ (fun k hk=>by simp[fN,hk]) (by simp[fN]) (by rw[<-hpj,hl.H5 hj]) rfl ?_ (uo _ _ _ (uo _ _ _ hnd)) ⟨dk,fun L=>by
       simp only[bU];exact⟨fun hL=>⟨hL,p,aU hj,by rw[hL]; exact hpj⟩,fun hL=>hL.1⟩⟩
      ·unfold oX;rw[hk1,aj dk,jn,hg]
      ·have:=adv hl t2 t3;rw[show nc (s.met+1)=s.met+1 from gb aM aM]; simp
     ·refine fin ⟨kL s.jF e.ar ((dx s.jF ar).getD 0),s.met,s.whole⟩ [] (dS l (jP L0)) ?_ (fun k hk=>by simp[fN,hk]) (by simp[fN,hv]) (by rw[hl.V8 hnms h12 hno]) rfl dk (uo _ _ _ hnd) ⟨dk,fun L=>by
       simp only[List.not_mem_nil,false_iff];rintro⟨rfl,p,hp,hpj⟩;exact hno p hp hpj⟩
      ·unfold oX;rw[hk1,aj dk,jn,hg]
  refine key d.aK s v0 (fun e h=>h) (hasc.imp fun {a b} hab=>?_) hv hL hnd hM
  intro e;rw[e,gZ] at hab;cases hab
end
section
variable {t:Tree} {cz:Int->Nat} {l:List Piece}
structure rO(l:List Piece)(aa:List Node):Prop where
 yh:∀p,p∈l->∃z n,Way aa 1 (wO p) z/\find aa z=some n/\n.kind=2
 kept:∀i n,find aa i=some n->n.kind=1->∃d e,find aa d.ar=some d/\d.kind=2/\e∈d.aK/\e.ar=i
 one:aap l aa
def kc.nd(hl:kc l):(l.map wO).Nodup:=by
 rw[List.Nodup,iL];refine List.Pairwise.imp_of_mem (fun {a b} ha hb hab e=>?_) hl.iW
 rw[hl.join ha,hl.join hb,e,gZ] at hab;cases hab
def kc.nil(hl:kc l):[]∈l.map wO:=by
 obtain⟨p,r,rfl,hp⟩:=hl.fst;exact cm.2 ⟨p,aG,by rw[wO,hp]; rfl⟩
def kc.N8(hl:kc l):dS l (jP [])=0:=by
 obtain⟨p,r,rfl,hp⟩:=hl.fst;have:=hl.H5 (j:=0) (p:=p) rfl;rw[hp] at this; exact this
structure Found(l:List Piece)(t:Tree)(s:Hm)(ms:List (List Bytes)):Prop where
 Iu:∀k v,dx s.jF k=some v->va l t.aa k v
 nd:(s.jF.map Prod.fst).Nodup
 yh:∀i n,find t.aa i=some n->n.kind=2->∃v,dx s.jF i=some v
 all:∀i n e,find t.aa i=some n->e∈n.aK->∃v,dx s.jF e.ar=some v
 own:s.whole=true->∀i d e n u,find t.aa i=some d->e∈d.aK->find t.aa e.ar=some n->n.kind=1->Dh l t.aa i u->dx s.jF e.ar=some u
 one:aap l t.aa->s.whole=true
 met:s.met=1+ms.length
 mnd:ms.Nodup
 Mu:∀L,L∈ms->L≠[]/\∃z n p,Way t.aa 1 L z/\find t.aa z=some n/\n.kind=2/\p∈l/\p.aQ=jP L
 Ou:∀L z n p,L≠[]->Way t.aa 1 L z->find t.aa z=some n->n.kind=2->p∈l->p.aQ=jP L->L∈ms
def BH(h:cF t cz 0)(hl:kc l):∃ms,Found l t (tb l t.aa) ms:=by
 obtain⟨r,hr,hrk,_⟩:=h.root;have hw:Way t.aa 1 [] 1:=rfl
 obtain⟨ms,g⟩:=NK h hl 14 1 [] ⟨[(1,0)],1,true⟩ r 0 hr hrk aM hw rfl (fun k v hkv=>by
  simp only[dx] at hkv;split at hkv
  ·rename_i hk;cases hkv; subst hk;refine⟨fun n hn hnk=>⟨[],hw,by rw[hl.N8]; rfl⟩,fun n hn hnk=>?_,⟨r,hr⟩⟩
   rw[hr] at hn; cases hn;rw[hrk] at hnk; cases hnk
  ·cases hkv) dk ⟨[],dk,kY,dk,dk⟩
 have hne:(bO t.aa 1).aK=r.aK:=by simp[bO,hr]
 have hS:tb l t.aa=mb t.aa (mh l) 14 1 [] ⟨[(1,0)],1,true⟩:=rfl;rw[<-hS] at g;generalize tb l t.aa=s at g ⊢
 have clo:∀k v,dx s.jF k=some v->∀e,e∈(bO t.aa k).aK->∃w,dx s.jF e.ar=some w:=fun k v hk e he=>by
  rcases g.new k v hk with ⟨w,hw⟩|⟨hc,_⟩
  ·simp only[dx] at hw;split at hw
   ·rename_i h1; subst h1;rw[hne] at he; exact g.all e he
   ·cases hw
  ·exact hc e he
 have reach:∀(L:List Bytes)(i j:Int),Way t.aa i L j->(∃v,dx s.jF i=some v)->∃v,dx s.jF j=some v:=by
  intro L;induction L with
  |nil=>intro i j hw hi; rw[Way] at hw; rw[<-hw]; exact hi
  |cons x L ih =>
   rintro i j ⟨d,e,h1,h2,h3,h4,h5⟩ ⟨v,hv⟩;refine ih _ _ h5 (clo i v hv e ?_);have:=(eH h4).1;simpa[bO,h1] using this
 have root:∃v,dx s.jF 1=some v:=g.keys 1 0 rfl
 have yh:∀i n,find t.aa i=some n->n.kind=2->∃v,dx s.jF i=some v:=fun i n hi hk=>by
  obtain⟨L,hL,_⟩:=h.G8 (cz i) i n hi hk rfl;exact reach L 1 i hL root
 have isd:∀i n e,find t.aa i=some n->e∈n.aK->n.kind=2:=fun i n e hi he=>by
  rcases h.kind _ _ hi with h1|h1
  ·rw[(h.file _ _ hi h1).1] at he; cases he
  ·exact h1
 refine⟨ms,g.Iu,g.nd,yh,fun i n e hi he=>?_,fun hs i d e n u hd he hn hk hu=>?_,fun ho=>g.one ho rfl,g.met,g.mnd,fun L hL=>?_,fun L z n p hL hw hz hk hp hpj=>?_⟩
 ·obtain⟨v,hv⟩:=yh i n hi (isd i n e hi he);exact clo i v hv e (by simpa[bO,hi] using he)
 ·obtain⟨v,hv⟩:=yh i d hd (isd i d e hd he);rcases g.new i v hv with ⟨w,hw'⟩|⟨_,hc⟩
  ·simp only[dx] at hw';split at hw'
   ·rename_i h1; subst h1;rw[hr] at hd; cases hd;exact g.own hs e n he hn hk u hu
   ·cases hw'
  ·exact hc hs e n (by simpa[bO,hd] using he) hn hk u hu
 ·obtain⟨e,B,z,n,p,q1,q2,q3⟩:=g.Mu L hL;exact⟨by rw[q2]; simp,z,n,p,q3⟩
 ·cases L with
  |nil=>exact absurd rfl hL
  |cons x B =>
   obtain⟨d,e,h1,h2,h3,h4,h5⟩:=hw;rw[hr] at h1; cases h1;obtain⟨m1,m2⟩:=eH h4;have:=g.Ou e B z n p m1 (by rw[bw,m2]; exact⟨r,e,hr,h2,h3,h4,h5⟩) hz hk hp (by rw[bw,m2]; exact hpj)
   rw[bw,m2] at this;exact this
def Em{aa:List Node}(h:ng aa):(aa.map Node.ar).Nodup:=by
 rw[List.Nodup,iL];exact h.imp fun {a b} hab=>aM
def L8{α:Type}[DecidableEq α]{a b:List α}(ha:a.Nodup)(hs:∀x,x∈a->x∈b)(hl:b.length<=a.length)(x:α)(hx:x∈b):x∈a:=by
 by_cases h:x∈a
 ·exact h
 ·have:=uq (x::a) b (iK.2 ⟨h,ha⟩) (fun y hy=>(ba.1 hy).elim (fun e=>e▸hx) (hs y))
  simp at this; omega
def vp(h:cF t cz 0)(hl:kc l):(kU l t.aa).2=true↔rO l t.aa:=by
 obtain⟨ms,g⟩:=BH h hl
 have hsub:∀x,x∈(tb l t.aa).jF.map Prod.fst->x∈t.aa.map Node.ar:=fun x hx=>by
  obtain⟨v,hv⟩:=(xZ _ _).1 hx;obtain⟨n,hn⟩:=(g.Iu _ _ hv).ex;exact cm.2 ⟨n,(cr hn).1,h.ar hn⟩
 have hms:∀L,L∈[]::ms->L∈l.map wO:=fun L hL=>by
  rcases ba.1 hL with rfl|hL
  ·exact hl.nil
  ·obtain⟨_,z,n,p,q1,_,_,q4,q5⟩:=g.Mu L hL;exact hl.pathIn (oc q1) (h.sk q1) q4 q5
 have hnd:([]::ms).Nodup:=iK.2 ⟨fun hx=>(g.Mu _ hx).1 rfl,g.mnd⟩
 simp only[kU,bm,eG];rw[g.met];constructor
 ·rintro⟨w1,w2,w3⟩;refine⟨fun p hp=>?_,fun i n hi hk=>?_,fun d e d' e' n v w hd he hd' he' hee hn hk hv hw=>?_⟩
  ·have:=L8 hnd hms ic (wO p) (cm.2 ⟨p,hp,rfl⟩);rcases ba.1 this with e|hL
   ·obtain⟨r,hr,hrk,_⟩:=h.root;exact⟨1,r,by rw[e]; rfl,hr,hrk⟩
   ·obtain⟨_,z,n,_,q1,q2,q3,_⟩:=g.Mu _ hL;exact⟨z,n,q1,q2,q3⟩
  ·have:=L8 g.nd hsub ic i (cm.2 ⟨n,(cr hi).1,h.ar hi⟩);obtain⟨v,hv⟩:=(xZ _ _).1 this;obtain⟨d,e,q1,q2,q3,q4,_⟩:=(g.Iu _ _ hv).file n hi hk;exact⟨d,e,q1,q2,q3,q4⟩
  ·have a:=g.own w1 _ _ _ _ _ hd he hn hk hv;rw[hee] at a hn;have b:=g.own w1 _ _ _ _ _ hd' he' hn hk hw;rw[a] at b; injection b
 ·intro m;refine⟨g.one m.one,?_,?_⟩
  ·have h1:=uq _ _ hnd hms
   have h2:=uq (l.map wO) ([]::ms) hl.nd fun L hL=>by
    obtain⟨p,hp,rfl⟩:=cm.1 hL
    by_cases hL0:wO p=[]
    ·rw[hL0]; exact aG
    ·obtain⟨z,n,q1,q2,q3⟩:=m.yh p hp;exact aP _ (g.Ou _ z n p hL0 q1 q2 q3 hp (hl.join hp))
   simp at h1 h2; omega
  ·have h1:=uq _ _ g.nd hsub
   have h2:=uq (t.aa.map Node.ar) ((tb l t.aa).jF.map Prod.fst) (Em h.jK.iW) fun x hx=>by
    obtain⟨n,hn,rfl⟩:=cm.1 hx;have hf:=(fp h.jK.iW).2 ⟨hn,rfl⟩;rw[xZ];rcases h.kind _ _ hf with hk|hk
    ·obtain⟨d,e,q1,_,q3,q4⟩:=m.kept _ _ hf hk;rw[<-q4];exact g.all _ _ _ q1 q3
    ·exact g.yh _ _ hf hk
   simp at h1 h2; omega
def vn(l:List Piece)(aa:List Node)(i:Int):Int:=(dx (kU l aa).1 i).getD 0
def pH(h:cF t cz 0)(hl:kc l)(m:rO l t.aa){i:Int}{n:Node}(hi:find t.aa i=some n):va l t.aa i (vn l t.aa i):=by
 obtain⟨ms,g⟩:=BH h hl
 have:∃v,dx (tb l t.aa).jF i=some v:=by
  rcases h.kind _ _ hi with hk|hk
  ·obtain⟨d,e,q1,_,q3,q4⟩:=m.kept _ _ hi hk;rw[<-q4];exact g.all _ _ _ q1 q3
  ·exact g.yh _ _ hi hk
 obtain⟨v,hv⟩:=this;have e:vn l t.aa i=v:=by simp[vn,kU,hv]
 rw[e];exact g.Iu _ _ hv
def Iv(h:cF t cz 0)(m:rO l t.aa){i v w:Int}(a:va l t.aa i v)(b:va l t.aa i w):v=w:=by
 obtain⟨n,hn⟩:=a.ex;rcases h.kind _ _ hn with hk|hk
 ·obtain⟨d,e,q1,q2,q3,q4,q5⟩:=a.file n hn hk;obtain⟨d',e',r1,r2,r3,r4,r5⟩:=b.file n hn hk;exact m.one d e d' e' n v w q1 q3 r1 r3 (q4.trans r4.symm) (by rw[q4]; exact hn) hk q5 r5
 ·exact h.CP hn hk (a.dir n hn hk) (b.dir n hn hk)
end
section
variable {l l':List Piece}
def nB(l:List Piece)(i:Nat):Piece:=(l[i]?).getD default
def nu(l:List Piece)(i:Nat)(e:Int):List Piece:=l.set i { nB l i with dR:=e }
def rJ(l:List Piece)(s:Bytes):Option Nat:=l.findIdx? fun p=>p.aQ==s
def yj(l:List Piece)(p:Piece):List Piece:=l.takeWhile (fun q=>strLt q.aQ p.aQ)++p::l.dropWhile (fun q=>strLt q.aQ p.aQ)
def nU(n:Int):Bool:=decide (0<=n)&&decide (n<8)
def vi(l:List Piece)(s:Bytes)(to:Int):List Piece×Int :=
 if nU to=false then (l,1)
 else if (bI s).2 != 0 then (l,(bI s).2)
 else match rJ l s with
  |some _=>(l,71)
  |none=>if decide ((16:Int)<=l.length)||decide (1099511627776<=(nB l (dS l s)).dR) then (l,76)
   else (yj (nu l (dS l s) ((nB l (dS l s)).dR+1)) ⟨s,to,(nB l (dS l s)).dR+1⟩,0)
def mW(l:List Piece)(s:Bytes):List Piece×Int :=
 if (bI s).2 != 0 then (l,(bI s).2)
 else match rJ l s with
  |none=>(l,180)
  |some 0=>(l,180)
  |some (a+1) =>
   let e:=max (nB l (a+1)).dR (nB l (dS l (gh s).2.1)).dR
   if 1099511627776<=e then (l,76) else ((nu l (dS l (gh s).2.1) (e+1)).eraseIdx (a+1),0)
def nV(l:List Piece)(s:Bytes)(to:Int):List Piece×Int :=
 if nU to=false then (l,1)
 else if (bI s).2 != 0 then (l,(bI s).2)
 else match rJ l s with
  |none=>(l,180)
  |some a=>if 1099511627776<=(nB l a).dR then (l,76) else (l.set a ⟨s,to,(nB l a).dR+1⟩,0)
def pK{s:Bytes}{a:Nat}(h:rJ l s=some a):∃p,l[a]?=some p/\p.aQ=s:=by
 obtain⟨h1,h2,_⟩:=List.findIdx?_eq_some_iff_getElem.1 h;exact⟨_,ai h1,by simpa using h2⟩
def DF{s:Bytes}(h:rJ l s=none):∀p,p∈l->p.aQ≠s:=fun p hp=>by
 have:=List.findIdx?_eq_none_iff.1 h p hp;simpa using this
def kc.of(hp:l'.map Piece.aQ=l.map Piece.aQ)(h:kc l)(ho:∀p,p∈l'->0<=p.group/\p.group<8/\1<=p.dR/\p.dR<=1099511627776):kc l':=by
 have fx:l'.length=l.length:=by have:=congrArg List.length hp; simpa using this
 refine⟨?_,by have:=h.many; omega,fun p hm=>?_,?_⟩
 ·obtain⟨p,r,rfl,hr⟩:=h.fst;cases l' with
  |nil=>cases fx
  |cons q r' =>
   refine⟨q,r',rfl,?_⟩;simp only[a8] at hp;injection hp with hp _
   rw[hp]; exact hr
 ·refine⟨?_,ho p hm⟩;have:p.aQ∈l.map Piece.aQ:=by rw[<-hp]; exact cm.2 ⟨p,hm,rfl⟩
  obtain⟨q,hq,e⟩:=cm.1 this;rw[<-e]; exact(h.ok q hq).1
 ·have h1:=h.iW;rw[<-iL (f:=Piece.aQ) (R:=fun a b=>strLt a b=true)] at h1 ⊢
  rw[hp]; exact h1
def xI(l:List Piece)(i:Nat)(e:Int):(nu l i e).map Piece.aQ=l.map Piece.aQ:=by
 apply dA;intro k;rw[nu,jZ,List.getElem?_set];split
 ·rename_i hk;subst hk;rw[bb];simp only[az];split
  ·rename_i cA;simp[nB,ai cA]
  ·rename_i cA;rw[gQ aM]; rfl
 ·rfl
def qQ{i:Nat}(h:i<l.length):nB l i∈l:=by
 simp[nB,ai h]
def kc.bump(h:kc l){i:Nat}{e:Int}(h1:1<=e)(h2:e<=1099511627776):kc (nu l i e):=by
 refine kc.of (xI l i e) h fun p hp=>?_
 rcases bK i l.length with hi|hi
 ·rcases lq hp with hp|rfl
  ·exact(h.ok p hp).2
  ·have:=(h.ok _ (qQ hi)).2;exact⟨this.1,this.2.1,h1,h2⟩
 ·rw[nu,List.set_eq_of_length_le hi] at hp;exact(h.ok p hp).2
def BG(s:Bytes):∀(l l':List Piece)(i b:Nat),l'.map Piece.aQ=l.map Piece.aQ->rC s l' i b=rC s l i b
 | [],[],_,_,_=>rfl
 | [],_::_,_,_,h=>by cases h
 |_::_,[],_,_,h=>by cases h
 |p::r,p'::r',i,b,h=>by
  simp only[a8] at h;injection h with h1 h2
  rw[rC,rC,h1,BG s r r' _ _ h2]
def Kw(h:l'.map Piece.aQ=l.map Piece.aQ)(s:Bytes):dS l' s=dS l s:=BG s l l' 0 0 h
def kc.uH(h:kc l){s:Bytes}(hs:(bI s).2=0):dS l s<l.length:=by
 obtain⟨p,hp,_⟩:=h.home hs;exact aJ hp
def Q6(l:List Piece)(p:Piece):(yj l p).length=l.length+1:=by
 have h:=congrArg List.length (List.takeWhile_append_dropWhile (p:=fun q:Piece=>strLt q.aQ p.aQ) (l:=l))
 rw[aR] at h;simp only[yj,aR,aD]; omega
theorem TN{p q:Piece}:q∈yj l p↔q=p\/q∈l:=by
 have:q∈l↔q∈l.takeWhile (fun q=>strLt q.aQ p.aQ)\/q∈l.dropWhile (fun q=>strLt q.aQ p.aQ):=by
  rw[<-bC,List.takeWhile_append_dropWhile]
 rw[this];simp only[yj,bC,ba]
 grind
def CS{s:Bytes}:∀ {l:List Piece},l.Pairwise (fun a b=>strLt a.aQ b.aQ=true)->∀q,q∈l.dropWhile (fun q=>strLt q.aQ s)->strLt q.aQ s=false
 | [],_,q,hq=>by simp at hq
 |p::r,h,q,hq=>by
  obtain⟨h1,h2⟩:=bR.1 h;rw[lH] at hq;split at hq
  ·exact CS h2 q hq
  ·rename_i hp;have hp:strLt p.aQ s=false:=by simpa using hp
   rcases ba.1 hq with rfl|hq
   ·exact hp
   ·cases hc:strLt q.aQ s with
    |false=>rfl
    |true =>
     have:=mZ (h1 q hq) hc;rw[hp] at this; cases this
def kc.ins(h:kc l){p:Piece}(hn:∀q,q∈l->q.aQ≠p.aQ)(fx:l.length<16)(hp:(bI p.aQ).2=0/\0<=p.group/\p.group<8/\1<=p.dR/\p.dR<=1099511627776):kc (yj l p):=by
 refine⟨?_,by rw[Q6]; omega,fun q hq=>?_,?_⟩
 ·obtain⟨p0,r,rfl,h0⟩:=h.fst
  have cA:strLt p0.aQ p.aQ=true:=by
   rw[h0];have hj:p.aQ=jP (wO p):=xR (ig rfl hp.1);have hne:wO p≠[]:=fun e=>hn p0 aG (by rw[h0,hj,e]; rfl)
   obtain⟨x,hx,e⟩:=KA (A:=[]) (B:=wO p) dk (dM hne) (Dw _);rw[hj,e];exact Bl _ _ hx
  refine⟨p0,r.takeWhile (fun q=>strLt q.aQ p.aQ)++p::r.dropWhile (fun q=>strLt q.aQ p.aQ),?_,h0⟩
  simp[yj,cA]
 ·rcases TN.1 hq with rfl|hq
  ·exact hp
  ·exact h.ok q hq
 ·have hT:∀q,q∈l.takeWhile (fun q=>strLt q.aQ p.aQ)->strLt q.aQ p.aQ=true:=fun q hq=>by
   have:=List.all_takeWhile (p:=fun q:Piece=>strLt q.aQ p.aQ) (l:=l)
   exact bF.1 this q hq
  have hD:∀q,q∈l.dropWhile (fun q=>strLt q.aQ p.aQ)->strLt p.aQ q.aQ=true:=fun q hq=>by
   have h1:=CS h.iW q hq;rcases oA p.aQ q.aQ with g|g|g
   ·exact g
   ·exact absurd g.symm (hn q (List.dropWhile_subset _ hq))
   ·rw[h1] at g; cases g
  unfold yj;refine cC.2 ⟨h.iW.sublist (List.takeWhile_sublist _),bR.2 ⟨hD,h.iW.sublist (List.dropWhile_sublist _)⟩,fun a ha b hb=>?_⟩
  rcases ba.1 hb with rfl|hb
  ·exact hT a ha
  ·exact mZ (hT a ha) (hD b hb)
def Cd(h:kc l){s:Bytes}{to:Int}:kc (vi l s to).1:=by
 unfold vi;split
 ·exact h
 rename_i hg;split
 ·exact h
 rename_i hs;have hs:(bI s).2=0:=by simpa using hs
 split
 ·exact h
 rename_i hno;split
 ·exact h
 rename_i hm;simp only[cV,bt,kB,Int.not_le] at hm;have cA:=h.uH hs;have hok:=h.ok _ (qQ cA);have hb:=h.bump (i:=dS l s) (e:=(nB l (dS l s)).dR+1) aM aM;simp only[nU,kO,bm,bt] at hg;refine hb.ins (fun q hq e=>?_) (by simp[nu]; omega) ⟨hs,hg.1,hg.2,by simp only; omega,by simp only; omega⟩
 have:q.aQ∈l.map Piece.aQ:=by rw[<-xI l (dS l s) ((nB l (dS l s)).dR+1)]; exact cm.2 ⟨q,hq,rfl⟩
 obtain⟨q',hq',e'⟩:=cm.1 this;exact DF hno q' hq' (e'.trans e)
def Du{s:Bytes}{to:Int}:(nV l s to).1.map Piece.aQ=l.map Piece.aQ:=by
 unfold nV;split
 ·rfl
 split
 ·rfl
 split
 ·rfl
 rename_i a ha;split
 ·rfl
 obtain⟨p,hp,rfl⟩:=pK ha;apply dA;intro k;rw[jZ,List.getElem?_set];split
 ·rename_i hk;subst hk;rw[bb,hp];simp[aJ hp]
 ·rfl
def TQ(h:kc l){s:Bytes}{to:Int}:kc (nV l s to).1:=by
 refine kc.of Du h fun p hp=>?_
 unfold nV at hp;split at hp
 ·exact(h.ok p hp).2
 rename_i hg;split at hp
 ·exact(h.ok p hp).2
 split at hp
 ·exact(h.ok p hp).2
 rename_i a ha;split at hp
 ·exact(h.ok p hp).2
 rename_i he;simp only[nU,kO,bm,bt] at hg;obtain⟨q,hq,_⟩:=pK ha;have:=(h.ok _ (qQ (aJ hq))).2;rcases lq hp with hp|rfl
 ·exact(h.ok p hp).2
 ·exact⟨hg.1,hg.2,by simp only; omega,by simp only; omega⟩
def IM{aa:List Node}(hp:l'.map Piece.aQ=l.map Piece.aQ)(m:rO l aa):rO l' aa:=by
 refine⟨fun p hpm=>?_,m.kept,fun d e d' e' n v w h1 h2 h3 h4 h5 h6 h7 h8 h9=>?_⟩
 ·have:p.aQ∈l.map Piece.aQ:=by rw[<-hp]; exact cm.2 ⟨p,hpm,rfl⟩
  obtain⟨q,hq,e⟩:=cm.1 this;obtain⟨z,n,q1⟩:=m.yh q hq;exact⟨z,n,by rw[wO,<-e]; exact q1⟩
 ·obtain⟨L,a1,a2⟩:=h8;obtain⟨L',b1,b2⟩:=h9;rw[Kw hp] at a2 b2;exact m.one d e d' e' n v w h1 h2 h3 h4 h5 h6 h7 ⟨L,a1,a2⟩ ⟨L',b1,b2⟩
def kc.erase(h:kc l)(a:Nat):kc (l.eraseIdx (a+1)):=by
 obtain⟨p,r,rfl,hp⟩:=h.fst;refine⟨⟨p,r.eraseIdx a,rfl,hp⟩,?_,fun q hq=>h.ok q (List.mem_of_mem_eraseIdx hq),h.iW.sublist (List.eraseIdx_sublist _ _)⟩
 have:=(List.eraseIdx_sublist (p::r) (a+1)).length_le;have:=h.many;omega
def kc.Da(h:kc l){a:Nat}{pa:Piece}(ha:l[a+1]?=some pa){P:List Bytes}{x:Bytes}(hx:wO pa=P++[x]){s:Bytes}(hs:(bI s).2=0) :
  dS (l.eraseIdx (a+1)) s=if dS l s=a+1 then dS l (jP P) else if dS l s<a+1 then dS l s else dS l s-1:=by
 have hpm:=aU ha;have hno:=Dw pa.aQ;have h12:=(lV pa.aQ).2;rw[show(bI pa.aQ).1=P++[x] from hx] at hno h12
 have sP:bI (jP P)=(P,0):=lg (fun y hy=>hno y (fG _ hy)) (by simp at h12; omega)
 obtain⟨p,h1,h2,h3⟩:=h.home hs;have ge:∀k,(l.eraseIdx (a+1))[k]?=if k<a+1 then l[k]? else l[k+1]?:=fun k=>List.getElem?_eraseIdx
 split
 ·rename_i he;rw[he] at h1 h3;rw[ha] at h1; cases h1;obtain⟨u,u1,u2,u3⟩:=h.home (s:=jP P) (by rw[sP])
  have hPs:P <+: (bI s).1:=by
   have:=(o9.1 h2).2.2;rw[show(bI pa.aQ).1=P++[x] from hx] at this
   exact(mn _ _).trans this
  have hua:ki u.aQ s=true:=by
   rw[o9] at u2 ⊢;rw[sP] at u2;exact⟨u2.1,hs,u2.2.2.trans hPs⟩
  have hle:=h3 _ _ u1 hua
  have hne:dS l (jP P)≠a+1:=fun e=>by
   rw[e,ha] at u1; cases u1;have:=(o9.1 u2).2.2;rw[sP,show(bI pa.aQ).1=P++[x] from hx] at this
   have:=this.length_le;simp at this;omega
  refine vo (h.erase a) hs (by rw[ge,av aM]; exact u1) hua fun k q hk hq=>?_
  rw[ge] at hk;split at hk
  ·rename_i cA;refine u3 k q hk ?_;rw[o9] at hq ⊢;have hl:=(h.KS cA hk ha (o9.2 hq) h2).1;rw[hx] at hl;rw[sP];refine⟨hq.1,rfl,?_⟩;rcases List.prefix_concat_iff.1 hl with e|e
   ·exfalso;have:=h.only hk ha (by rw[h.join (aU hk),h.join hpm,e,hx])
    omega
   ·exact e
  ·have:=h3 _ _ hk hq;omega
 ·rename_i hne
  have up:∀k q,(l.eraseIdx (a+1))[k]?=some q->ki q.aQ s=true->(if k<a+1 then k else k+1)<=dS l s:=fun k q hk hq=>by
   rw[ge] at hk;split at hk
   ·rename_i cA; rw[av cA]; exact h3 k q hk hq
   ·rename_i cA; rw[aj cA]; exact h3 _ q hk hq
  split
  ·rename_i cA;refine vo (h.erase a) hs (by rw[ge,av cA]; exact h1) h2 fun k q hk hq=>?_
   have:=up k q hk hq;split at this<;>omega
  ·rename_i hge;refine vo (h.erase a) hs (by rw[ge,aj aM,show dS l s-1+1=dS l s by omega]; exact h1) h2 fun k q hk hq=>?_
   have:=up k q hk hq;split at this<;>omega
def Ow{t:Tree}{cz:Int->Nat}(ht:cF t cz 0)(h:kc l){a:Nat}{pa:Piece}(ha:l[a+1]?=some pa)(m:rO l t.aa):rO (l.eraseIdx (a+1)) t.aa:=by
 have hne:wO pa≠[]:=fun e=>by
  obtain⟨p,r,rfl,hp⟩:=h.fst;have:=h.only (i:=a+1) (j:=0) ha rfl (by rw[h.join (aU ha),e,hp]; rfl)
  omega
 obtain⟨P,x,hx⟩:∃P x,wO pa=P++[x]:=⟨_,_,(List.dropLast_concat_getLast hne).symm⟩;refine⟨fun p hp=>m.yh p (List.mem_of_mem_eraseIdx hp),m.kept,fun d e d' e' n v w h1 h2 h3 h4 h5 h6 h7 h8 h9=>?_⟩
 obtain⟨L,a1,rfl⟩:=h8;obtain⟨L',b1,rfl⟩:=h9;have hs:(bI (jP L)).2=0:=by rw[lg (oc a1) (ht.sk a1)]
 have hs':(bI (jP L')).2=0:=by rw[lg (oc b1) (ht.sk b1)]
 have:=m.one d e d' e' n _ _ h1 h2 h3 h4 h5 h6 h7 ⟨L,a1,rfl⟩ ⟨L',b1,rfl⟩;rw[h.Da ha hx hs,h.Da ha hx hs'];have e0:dS l (jP L)=dS l (jP L'):=by exact_mod_cast this
 rw[e0]
def Ra(h:kc l){s:Bytes}:kc (mW l s).1:=by
 unfold mW;split
 ·exact h
 rename_i hs;have hs:(bI s).2=0:=by simpa using hs
 split
 ·exact h
 ·exact h
 rename_i a ha;simp only;split
 ·exact h
 rename_i he;obtain⟨p,hp,_⟩:=pK ha;have cA:a+1<l.length:=aJ hp;have:=(h.ok _ (qQ cA)).2;exact(h.bump aM aM).erase a
def TL{t:Tree}{cz:Int->Nat}(ht:cF t cz 0)(h:kc l){s:Bytes}(m:rO l t.aa):rO (mW l s).1 t.aa:=by
 unfold mW;split
 ·exact m
 rename_i hs;split
 ·exact m
 ·exact m
 rename_i a ha;simp only;split
 ·exact m
 rename_i he;obtain⟨p,hp,_⟩:=pK ha;have cA:a+1<l.length:=aJ hp;have:=(h.ok _ (qQ cA)).2;have hb:=h.bump (i:=dS l (gh s).2.1) (e:=max (nB l (a+1)).dR (nB l (dS l (gh s).2.1)).dR+1) aM aM;have hm:=IM (xI l (dS l (gh s).2.1) (max (nB l (a+1)).dR (nB l (dS l (gh s).2.1)).dR+1)) m
 have hl:a+1<(nu l (dS l (gh s).2.1) (max (nB l (a+1)).dR (nB l (dS l (gh s).2.1)).dR+1)).length:=by
  have:=aJ hp;simpa[nu] using this
 exact Ow ht hb (ai hl) hm
end
section
variable {t:Tree} {cz:Int->Nat} {l:List Piece}
def kX(l:List Piece)(aa:List Node)(i:Int):Int:=(nB l (vn l aa i).toNat).group
def qW(k:Node->Int)(aa:List Node):List nz:=(List.range 8).filterMap fun(g:Nat)=>if (aa.filter fun n=>k n==(g:Int)).isEmpty=true then none else some ⟨g,aa.filter fun n=>k n==(g:Int)⟩
def bG(l:List Piece)(t:Tree):rR:=⟨l,qW (fun n=>kX l t.aa n.ar) t.aa,t.next,t.ae⟩
def xa{α:Type}(p q:α->Bool)(hpq:∀x,p x=true->q x=false):∀ns:List α,(ns.filter p++ns.filter q).Perm (ns.filter fun x=>p x||q x)
 | []=>dk
 |a::ns=>by
  have ih:=xa p q hpq ns;cases hp:p a with
  |true=>simpa[eR,hp,hpq a hp] using ih
  |false =>
   cases hq:q a with
   |true =>
    simp only[eR,hp,hq,af,aC,aE,dz];exact List.perm_middle.trans (ih.cons a)
   |false=>simpa[eR,hp,hq] using ih
def Dn(k:Node->Int)(aa:List Node):∀m:Nat,(((List.range m).filterMap fun(g:Nat)=>if (aa.filter fun n=>k n==(g:Int)).isEmpty=true then none else some (nz.mk g (aa.filter fun n=>k n==(g:Int)))).flatMap nz.aa).Perm (aa.filter fun n=>decide (0<=k n)&&decide (k n<m))
 |0=>by
  simp only[List.range_zero,jk,List.flatMap_nil];rw[List.filter_eq_nil_iff.2 ?_];intro a _;simp
 |m+1=>by
  rw[kv,jo,lJ];have ih:=Dn k aa m
  have e:([m].filterMap fun(g:Nat)=>if (aa.filter fun n=>k n==(g:Int)).isEmpty=true then none else some (nz.mk g (aa.filter fun n=>k n==(g:Int)))).flatMap nz.aa=aa.filter fun n=>k n==(m:Int):=by
   simp only[jR,jk];split
   ·rename_i h;split at h
    ·rename_i h1;rw[List.isEmpty_iff.1 h1]; simp
    ·cases h
   ·rename_i x h;split at h
    ·cases h
    ·cases h; simp
  rw[e];refine(ih.append_right _).trans ((xa _ _ (fun x hx=>?_) aa).trans (List.Perm.of_eq ?_))
  ·simp only[bm,bt] at hx;simp; omega
  ·apply List.filter_congr;intro x _;rw[er];simp only[cV,bm,bt,eG];omega
def IE(k:Node->Int)(aa:List Node)(hk:∀n,n∈aa->0<=k n/\k n<8):((qW k aa).flatMap nz.aa).Perm aa:=by
 refine(Dn k aa 8).trans (List.Perm.of_eq ?_);apply gG.2;intro n hn;have:=hk n hn;simp only[bm,bt];exact⟨this.1,by exact_mod_cast this.2⟩
def Dh.lt(h:cF t cz 0)(hl:kc l){i v:Int}(d:Dh l t.aa i v):0<=v/\v.toNat<l.length:=by
 obtain⟨L,h1,rfl⟩:=d;have:=hl.uH (s:=jP L) (by rw[lg (oc h1) (h.sk h1)])
 simp; omega
def va.dh(h:cF t cz 0){i v:Int}(a:va l t.aa i v):∃k,Dh l t.aa k v:=by
 obtain⟨n,hn⟩:=a.ex;rcases h.kind _ _ hn with hk|hk
 ·obtain⟨d,_,_,_,_,_,q⟩:=a.file n hn hk;exact⟨_,q⟩
 ·exact⟨_,a.dir n hn hk⟩
def abz(h:cF t cz 0)(hl:kc l)(m:rO l t.aa){n:Node}(hn:n∈t.aa):0<=kX l t.aa n.ar/\kX l t.aa n.ar<8:=by
 have hf:=(fp h.jK.iW).2 ⟨hn,rfl⟩;obtain⟨k,q⟩:=(pH h hl m hf).dh h;have:=(hl.ok _ (qQ (q.lt h hl).2)).2;exact⟨this.1,this.2.1⟩
def tF(h:cF t cz 0)(hl:kc l)(m:rO l t.aa):((bG l t).dV.flatMap nz.aa).Perm t.aa :=
 IE _ _ fun _ hn=>abz h hl m hn
def PT{a b:List Node}(ha:ng a)(hb:ng b)(h:a.Perm b):a=b:=Cb ha hb fun m=>h.mem_iff
def Hh(f:rR):Prop:=∃t cz,cF t cz 0/\kc f.pieces/\rO f.pieces t.aa/\f=bG f.pieces t
end
section
variable {t:Tree} {cz:Int->Nat} {l:List Piece}
def Vm(a b:Bytes):Bool:=(jJ a).2==0&&((jJ b).2==0&&(jJ a).1.isPrefixOf (jJ b).1)
def Ly(a b:Bytes):Vm a b=ki a b:=by unfold Vm ki; rw[uB,uB]
def yH(all:List Piece)(s:Bytes):List Piece->Nat->Nat->Nat
 | [],_,b=>b
 |p::r,i,b=>yH all s r (i+1) (if Vm p.aQ s&&decide (((nB all b).aQ.length:Int)<=p.aQ.length) then i else b)
def ofD(l:List Piece)(s:Bytes):Int×Int:=if (jJ s).2 != 0 then (0,60) else (yH l s l 0 0,0)
def Aw(hl:kc l){s:Bytes}(hs:(bI s).2=0):∀(r pre:List Piece)(b:Nat)(q:Piece),l=pre++r->l[b]?=some q->ki q.aQ s=true->b<=pre.length->yH l s r pre.length b=rC s r pre.length b
 | [],_,_,_,_,_,_,_=>rfl
 |p::r,pre,b,q,h,hb,hq,hle=>by
  rw[yH,rC,Ly];have hp:l[pre.length]?=some p:=by rw[h]; simp
  have hbq:nB l b=q:=by simp[nB,hb]
  by_cases ha:ki p.aQ s=true
  ·have fx:q.aQ.length<=p.aQ.length:=by
    rcases bK b pre.length with cA|hge
    ·exact(hl.KS cA hb hp hq ha).2
    ·have:b=pre.length:=aM;subst this;rw[hb] at hp; cases hp; exact ak _
   rw[av (by rw[ha,hbq]; simpa using fx),av ha]
   have:=Aw hl hs r (pre++[p]) pre.length p (by rw[h]; simp) hp ha dk
   simpa using this
  ·rw[aj (by simp[ha]),aj ha]
   have:=Aw hl hs r (pre++[p]) b q (by rw[h]; simp) hb hq ic
   simpa using this
def KW(hl:kc l){s:Bytes}(hs:(bI s).2=0):ofD l s=((dS l s:Int),0):=by
 unfold ofD;rw[uB,aj (by simp[hs])]
 obtain⟨p,r,e,hp⟩:=hl.fst;have h0:l[0]?=some p:=by rw[e]; rfl
 have:=Aw hl hs l [] 0 p rfl h0 (by rw[hp]; exact Cw hs) (ak _)
 simp only[aF] at this;rw[this]; rfl
def mg(ar:Int)(ns:List Bytes)(e:eM):List Bytes:=if e.ar==ar then e.name::ns else ns
def GW(aa:List Node):Nat->Int->List Bytes->List Bytes
 |0,_,ns=>ns
 |m+1,ar,ns=>if ar != 1 then GW aa m (bO aa ar).up ((bO aa (bO aa ar).up).aK.foldl (mg ar) ns) else ns
def Uk(aa:List Node)(ar:Int):Bytes:=E2 (GW aa aa.length ar [])
def Fv(ar:Int):∀(es:List eM)(ns:List Bytes),jW es ar=0->es.foldl (mg ar) ns=ns
 | [],_,_=>rfl
 |e::es,ns,h=>by
  rw[rb] at h;rw[bB,mg,aj (by simp; intro hc; rw[av hc] at h; omega)]
  exact Fv ar es ns aM
def DD(ar:Int):∀(es:List eM)(ns:List Bytes)(e:eM),e∈es->e.ar=ar->jW es ar<=1->es.foldl (mg ar) ns=e.name::ns
 |x::es,ns,e,he,hi,h=>by
  rw[rb] at h;rw[bB];rcases ba.1 he with rfl|he
  ·rw[av hi] at h;rw[mg,av (by simpa using hi),Fv ar es _ aM]
  ·have:0<jW es ar:=ua.2 ⟨e,he,hi⟩
   by_cases hx:x.ar=ar
   ·rw[av hx] at h; omega
   ·rw[mg,aj (by simpa using hx)]
    exact DD ar es ns e he hi aM
def w7{n:Node}(i:Int):∀ {ns:List Node},n∈ns->jW n.aK i<=mJ ns i
 |m::ns,h=>by
  rw[nR];rcases ba.1 h with rfl|h
  ·omega
  ·have:=w7 (n:=n) i h; omega
def IZ(h:cF t cz 0):∀(m:Nat)(L:List Bytes)(ar:Int)(ns:List Bytes)(n:Node),Way t.aa 1 L ar->find t.aa ar=some n->n.kind=2->L.length<=m->GW t.aa m ar ns=L++ns
 |0,L,ar,ns,n,hw,hi,hk,hm=>by
  have:L=[]:=cK aM;subst this; rfl
 |m+1,L,ar,ns,n,hw,hi,hk,hm=>by
  rw[GW]
  by_cases h1:ar=1
  ·rw[aj (by simp[h1])]
   obtain⟨r,hr,hrk,_⟩:=h.root;subst h1;have:L=[]:=h.Cq L.length rfl hw (L':=[]) rfl hr hrk;subst this; rfl
  ·rw[av (by simpa using h1)]
   rcases fV L with rfl|⟨P,x,rfl⟩
   ·exact absurd hw.symm h1
   ·rw[gP] at *;obtain⟨p,hp,d,e,hd,hdk,hx,he,hee⟩:=nb.1 hw;rw[Way] at hee;obtain⟨he1,he2⟩:=eH he;obtain⟨m',hm',hu,_⟩:=h.step hd he;rw[hee,hi] at hm'; cases hm';have hup:n.up=p:=(hu hk).1;have hn:bO t.aa ar=n:=by simp[bO,hi]
    have hd':bO t.aa p=d:=by simp[bO,hd]
    have hc:jW d.aK ar<=1:=by
     have q1:=w7 (n:=d) ar (cr hd).1;have q2:=h.one _ _ hi hk h1;have q3:=h.df _ _ hi;have q4:=(h.num _ _ hi).1;rw[q2,aj aM] at q3;omega
    rw[hn,hup,hd',DD ar d.aK ns e he1 hee hc,he2,IZ h m P p (x::ns) d hp hd hdk (by simp at hm; omega)]
    simp
def IY(h:cF t cz 0){L:List Bytes}{ar:Int}{n:Node}(hw:Way t.aa 1 L ar)(hi:find t.aa ar=some n)(hk:n.kind=2):Uk t.aa ar=jP L:=by
 have hl:L.length<=t.aa.length:=by
  obtain⟨r,hr,hrk,_⟩:=h.root;have e:=h.uN hw hr hrk hi hk;have:=h.w8 hi hk;rw[h.zC] at e; omega
 rw[Uk,IZ h _ L ar [] n hw hi hk hl,cu,zM]
def wy(own o:Int):Int:=if o == -1 then own else if o != own then -2 else o
def qO(own:Int)(e:eM)(aa:List Node)(out:List Int):List Int:=List.zipWith (fun n o=>if n.ar != e.ar||n.kind != 1 then o else wy own o) aa out
def wj(l:List Piece)(aa:List Node)(d:Node):Int:=(ofD l (Uk aa d.ar)).1
def pU(l:List Piece)(aa:List Node)(s:Nat×List Int)(d:Node):Nat×List Int :=
 (s.1+1,if d.kind != 2 then s.2 else d.aK.foldl (fun o e=>qO (wj l aa d) e aa o) (s.2.set s.1 (wj l aa d)))
def sg(l:List Piece)(aa:List Node):List Int:=(aa.foldl (pU l aa) (0,aa.map fun _ => -1)).2
def DB(own:Int)(i:Int)(es:List eM):List Int:=es.filterMap fun e=>if e.ar=i then some own else none
def Ft(l:List Piece)(aa:List Node)(i:Int)(ds:List Node):List Int:=ds.flatMap fun d=>if d.kind=2 then DB (wj l aa d) i d.aK else []
def B8(l:List Piece)(aa:List Node)(ds:List Node)(n:Node):Int:=(Ft l aa n.ar ds).foldl (fun o own=>wy own o) (-1)
def IK(own:Int)(e:eM)(f:Node->Int):∀aa:List Node,qO own e aa (aa.map f)=aa.map fun n=>if n.ar=e.ar/\n.kind=1 then wy own (f n) else f n
 | []=>rfl
 |n::ns=>by
  have ih:=IK own e f ns;simp only[qO,a8,List.zipWith_cons_cons] at ih ⊢;rw[ih];congr 1
  by_cases h1:n.ar=e.ar<;>by_cases h2:n.kind=1<;>simp[h1,h2]
def Fh(own:Int)(aa:List Node):∀(es:List eM)(f:Node->Int),es.foldl (fun o e=>qO own e aa o) (aa.map f)=aa.map fun n=>if n.kind=1 then (DB own n.ar es).foldl (fun o own=>wy own o) (f n) else f n
 | [],f=>by simp[DB]
 |e::es,f=>by
  rw[bB,IK,Fh own aa es];apply cj;intro n _
  by_cases h2:n.kind=1
  ·by_cases h1:n.ar=e.ar
   ·simp[h1,h2,DB]
   ·simp[h1,h2,DB,dM h1]
  ·simp[h2]
def Fw(h:cF t cz 0):∀(ds pre:List Node),t.aa=pre++ds->ds.foldl (pU l t.aa) (pre.length,t.aa.map fun n=>if n.kind=2 then (if n∈pre then wj l t.aa n else -1) else B8 l t.aa pre n) =
  (t.aa.length,t.aa.map fun n=>if n.kind=2 then wj l t.aa n else B8 l t.aa t.aa n)
 | [],pre,e=>by
  rw[cu] at e;rw[ia,<-e];refine ig rfl ?_;apply cj;intro n hn;simp[hn]
 |d::ds,pre,e=>by
  have hnd:t.aa.Nodup:=h.jK.iW.imp fun {a b} hab hc=>by rw[hc] at hab; omega
  have hdp:d∉pre:=by
   rw[e] at hnd;have:=(kR.1 hnd).2.2;exact fun hd=>this d hd d aG rfl
  have hfile:∀n,n∈t.aa->n.kind=1\/n.kind=2:=fun n hn=>h.kind _ _ ((fp h.jK.iW).2 ⟨hn,rfl⟩)
  rw[bB];have hgo:=Fw h ds (pre++[d]) (by rw[e]; simp)
  have fx:(pre++[d]).length=pre.length+1:=dk;rw[fx] at hgo;rw[<-hgo];congr 1;unfold pU;refine ig rfl ?_;simp only
  by_cases hk:d.kind=2
  ·rw[aj (by simp[hk])]
   have hset:(t.aa.map fun n=>if n.kind=2 then (if n∈pre then wj l t.aa n else -1) else B8 l t.aa pre n).set pre.length (wj l t.aa d) =
     t.aa.map fun n=>if n.kind=2 then (if n∈pre++[d] then wj l t.aa n else -1) else B8 l t.aa pre n:=by
    apply dA;intro i;rw[List.getElem?_set];split
    ·rename_i hi;subst hi;rw[bb,e];simp[hk]
    ·rename_i hi;rw[bb,bb];cases hx:t.aa[i]? with
     |none=>rfl
     |some n =>
      have hne:n≠d:=by
       rintro rfl;have hd:t.aa[pre.length]?=some n:=by rw[e]; simp
       exact hi (aas h.jK.iW hd hx rfl)
      simp[hne]
   rw[hset,Fh];apply cj;intro n hn;rcases hfile n hn with h1|h1
   ·rw[av h1,aj aM,aj aM];simp[B8,Ft,hk,kQ]
   ·rw[aj aM,av h1,av h1]
  ·rw[av (by simpa using hk)]
   apply cj;intro n hn;rcases hfile n hn with h1|h1
   ·rw[aj aM,aj aM];simp[B8,Ft,hk]
   ·have:n≠d:=by rintro rfl; exact hk h1
    rw[av h1,av h1];simp[this]
def Ba(h:cF t cz 0):sg l t.aa=t.aa.map fun n=>if n.kind=2 then wj l t.aa n else B8 l t.aa t.aa n:=by
 have:=Fw (l:=l) h t.aa [] rfl;unfold sg
 have e0:(t.aa.map fun _=>(-1:Int))=t.aa.map fun n=>if n.kind=2 then (if n∈([]:List Node) then wj l t.aa n else -1) else B8 l t.aa [] n:=by
  apply cj;intro n _;simp[B8,Ft]
 rw[e0];exact congrArg Prod.snd this
def M4:∀ws:List Int,ws.foldl (fun o own=>wy own o) (-2) = -2\/∃w,w∈ws/\w = -2
 | [] => .inl rfl
 |w::ws=>by
  rw[bB]
  by_cases hw:w = -2
  ·exact .inr ⟨w,aG,hw⟩
  ·have:wy w (-2) = -2:=by unfold wy; rw[aj pd,av ic]
   rw[this];rcases M4 ws with g|⟨x,hx,g⟩
   ·exact .inl g
   ·exact .inr ⟨x,aP _ hx,g⟩
def M1{v:Int}(hv:0<=v):∀ws:List Int,(∀w,w∈ws->0<=w)->(ws.foldl (fun o own=>wy own o) v=v/\∀w,w∈ws->w=v)\/(ws.foldl (fun o own=>wy own o) v = -2/\∃w,w∈ws/\w≠v)
 | [],_ => .inl ⟨rfl,dk⟩
 |w::ws,h=>by
  rw[bB];have h2:=fun x hx=>h x (aP _ hx)
  by_cases hw:w=v
  ·subst hw;have:wy w w=w:=by unfold wy; rw[aj ic,aj dk]
   rw[this];rcases M1 hv ws h2 with ⟨g1,g2⟩|⟨g1,x,hx,g2⟩
   ·exact .inl ⟨g1,fun y hy=>(ba.1 hy).elim id (g2 y)⟩
   ·exact .inr ⟨g1,x,aP _ hx,g2⟩
  ·have:wy w v = -2:=by unfold wy; rw[aj ic,av ic]
   rw[this];refine .inr ⟨?_,w,aG,hw⟩;rcases M4 ws with g|⟨x,hx,g⟩
   ·exact g
   ·have:=h2 x hx; omega
def X2{ws:List Int}(h:∀w,w∈ws->0<=w){v:Int}(hv:0<=v):ws.foldl (fun o own=>wy own o) (-1)=v↔v∈ws/\∀w,w∈ws->w=v:=by
 cases ws with
 |nil=>simp; omega
 |cons w ws =>
  rw[bB];have h0:=h w aG;have:wy w (-1)=w:=by unfold wy; rw[av pd]
  rw[this];rcases M1 h0 ws (fun x hx=>h x (aP _ hx)) with ⟨g1,g2⟩|⟨g1,x,hx,g2⟩
  ·rw[g1];constructor
   ·rintro rfl;exact⟨aG,fun y hy=>(ba.1 hy).elim id (g2 y)⟩
   ·rintro⟨_,g⟩;exact g w aG
  ·rw[g1];constructor
   ·intro e; omega
   ·rintro⟨_,g⟩;have a:=g w aG;have b:=g x (aP _ hx);omega
def x6(h:cF t cz 0)(hl:kc l){d:Node}{i:Int}(hd:find t.aa i=some d)(hk:d.kind=2):Dh l t.aa i (wj l t.aa d)/\0<=wj l t.aa d:=by
 obtain⟨L,hw,_⟩:=h.G8 (cz i) i d hd hk rfl;have hi:=h.ar hd;subst hi
 have:wj l t.aa d=dS l (jP L):=by
  rw[wj,IY h hw hd hk,KW hl (by rw[lg (oc hw) (h.sk hw)])]
 rw[this];exact⟨⟨L,hw,rfl⟩,dk⟩
def xl{aa:List Node}{i w:Int}{ds:List Node}:w∈Ft l aa i ds↔∃d e,d∈ds/\d.kind=2/\e∈d.aK/\e.ar=i/\w=wj l aa d:=by
 simp only[Ft,gv];constructor
 ·rintro⟨d,hd,hw⟩;split at hw
  ·rename_i hk;simp only[DB,ml] at hw;obtain⟨e,he,h2⟩:=hw;split at h2
   ·rename_i hi;injection h2 with h2
    exact⟨d,e,hd,hk,he,hi,h2.symm⟩
   ·cases h2
  ·cases hw
 ·rintro⟨d,e,hd,hk,he,hi,rfl⟩;refine⟨d,hd,?_⟩;rw[av hk];simp only[DB,ml];exact⟨e,he,by rw[av hi]⟩
def G7(h:cF t cz 0)(hl:kc l){i v:Int}{n:Node}(hn:find t.aa i=some n)(hk:n.kind=1)(hv:0<=v):B8 l t.aa t.aa n=v↔(∃d e,find t.aa d.ar=some d/\d.kind=2/\e∈d.aK/\e.ar=i/\Dh l t.aa d.ar v)/\∀d e w,find t.aa d.ar=some d->e∈d.aK->e.ar=i->Dh l t.aa d.ar w->w=v:=by
 have hni:=h.ar hn;subst hni
 have isd:∀(d:Node)(e:eM),find t.aa d.ar=some d->e∈d.aK->d.kind=2:=fun d e hd he=>by
  rcases h.kind _ _ hd with h1|h1
  ·rw[(h.file _ _ hd h1).1] at he; cases he
  ·exact h1
 have fnd:∀d,d∈t.aa->find t.aa d.ar=some d:=fun d hd=>(fp h.jK.iW).2 ⟨hd,rfl⟩
 unfold B8
 rw[X2 (fun w hw=>by
  obtain⟨d,e,hd,hk,_,_,rfl⟩:=xl.1 hw;exact(x6 h hl (fnd d hd) hk).2) hv]
 constructor
 ·rintro⟨h1,h2⟩;obtain⟨d,e,hd,hk,he,hi,rfl⟩:=xl.1 h1;refine⟨⟨d,e,fnd d hd,hk,he,hi,(x6 h hl (fnd d hd) hk).1⟩,fun d' e' w hd' he' hi' hw=>?_⟩
  have hk':=isd d' e' hd' he';have:=h2 _ (xl.2 ⟨d',e',(cr hd').1,hk',he',hi',rfl⟩);rw[<-this];exact h.CP hd' hk' hw (x6 h hl hd' hk').1
 ·rintro⟨⟨d,e,hd,hk,he,hi,hD⟩,h2⟩;refine⟨xl.2 ⟨d,e,(cr hd).1,hk,he,hi,h.CP hd hk hD (x6 h hl hd hk).1⟩,fun w hw=>?_⟩
  obtain⟨d',e',hd',hk',he',hi',rfl⟩:=xl.1 hw;exact h2 d' e' _ (fnd d' hd') he' hi' (x6 h hl (fnd d' hd') hk').1
def BN(h:cF t cz 0)(hl:kc l)(m:rO l t.aa):sg l t.aa=t.aa.map fun n=>vn l t.aa n.ar:=by
 rw[Ba h];apply cj;intro n hn;have hf:=(fp h.jK.iW).2 ⟨hn,rfl⟩;have hL:=pH h hl m hf;split
 ·rename_i hk;exact h.CP hf hk (x6 h hl hf hk).1 (hL.dir n hf hk)
 ·rename_i hk;have hk1:n.kind=1:=(h.kind _ _ hf).resolve_right hk;obtain⟨d,e,q1,q2,q3,q4,q5⟩:=hL.file n hf hk1;rw[G7 h hl hf hk1 (q5.lt h hl).1];refine⟨⟨d,e,q1,q2,q3,q4,q5⟩,fun d' e' w r1 r3 r4 r5=>?_⟩
  exact m.one d' e' d e n w _ r1 r3 q1 q3 (r4.trans q4.symm) (by rw[r4]; exact hf) hk1 r5 q5
def Ov(l:List Piece)(t:Tree):Bool:=(l.all fun p=>(sR t.aa p.aQ).2==0&&(bO t.aa (sR t.aa p.aQ).1).kind==2)&&(sg l t.aa).all fun p => !decide (p<0)
def IL(h:cF t cz 0)(hl:kc l):Ov l t=true↔rO l t.aa:=by
 unfold Ov;rw[bm,bF,bF];have wk:∀s,sR t.aa s=eW t s:=Jj t;constructor
 ·rintro⟨h1,h2⟩;rw[Ba h] at h2
  have h3:∀i n,find t.aa i=some n->n.kind=1->0<=B8 l t.aa t.aa n:=fun i n hn hk=>by
   have:=h2 _ (cm.2 ⟨n,(cr hn).1,rfl⟩);rw[aj aM] at this;simpa using this
  refine⟨fun p hp=>?_,fun i n hn hk=>?_,fun d e d' e' n v w q1 q2 q3 q4 q5 q6 q7 q8 q9=>?_⟩
  ·have:=h1 p hp;rw[wk] at this;simp only[bm,eG] at this;obtain⟨L,g1,g2⟩:=yc.1 (ig rfl this.1:eW t p.aQ=((eW t p.aQ).1,0))
   have hn:∃n,find t.aa (eW t p.aQ).1=some n:=by
    cases hf:find t.aa (eW t p.aQ).1 with
    |none=>simp[bO,hf,Node.zero] at this
    |some n=>exact⟨n,rfl⟩
   obtain⟨n,hn⟩:=hn;refine⟨_,n,?_,hn,by simpa[bO,hn] using this.2⟩
   rw[wO,g1];exact uO.1 g2
  ·obtain⟨⟨d,e,g1,g2,g3,g4,_⟩,_⟩:=(G7 h hl hn hk (h3 i n hn hk)).1 rfl;exact⟨d,e,g1,g2,g3,g4⟩
  ·have h0:=h3 _ n q6 q7;obtain⟨_,g⟩:=(G7 h hl q6 q7 h0).1 rfl;rw[g d e v q1 q2 rfl q8,g d' e' w q3 q4 q5.symm q9]
 ·intro m;refine⟨fun p hp=>?_,fun x hx=>?_⟩
  ·obtain⟨z,n,g1,g2,g3⟩:=m.yh p hp;have:eW t p.aQ=(z,0):=yc.2 ⟨wO p,ig rfl (hl.ok p hp).1,uO.2 g1⟩;rw[wk,this];simp[bO,g2,g3]
  ·rw[BN h hl m] at hx;obtain⟨n,hn,rfl⟩:=cm.1 hx;have hf:=(fp h.jK.iW).2 ⟨hn,rfl⟩;obtain⟨k,q⟩:=(pH h hl m hf).dh h;have:=(q.lt h hl).1;simpa using this
end
abbrev Wt:=Tree×Pp×Int
def nD(e:Int):Pp:=⟨e,0,0,0,0,[],[]⟩
def rZ(t:Tree)(o:qm):Wt :=
 if (eW t o.aQ).2 != 0 then (t,nA,(eW t o.aQ).2)
 else (t,⟨0,(bO t.aa (eW t o.aQ).1).ar,(bO t.aa (eW t o.aQ).1).kind,0,0,[],[]⟩,0)
def sa(t:Tree)(o:qm):Wt :=
 let v:=eW t o.aQ
 let n:=bO t.aa v.1
 if v.2 != 0 then (t,nA,v.2) else
 (t,⟨0,n.ar,n.kind,n.df,UF n,[],[]⟩,0)
def uk(t:Tree)(o:qm):Wt :=
 let v:=eW t o.aQ
 let l:=qM t (bO t.aa v.1).ar o.n o.m
 if v.2 != 0 then (t,nA,v.2) else
 if l.2.2 != 0 then (t,nA,l.2.2) else
 (t,⟨0,0,0,l.2.1,0,l.1.map eM.name,[]⟩,0)
def ve(t:Tree)(o:qm):Wt :=
 let v:=mj t o.aQ
 let w:=nL t v.1 v.2.1 o.n
 if v.2.2 != 0 then (t,nA,v.2.2)
 else if w.2.2 != 0 then (t,nA,w.2.2)
 else (w.1,⟨0,w.2.1,o.n,0,0,[],[]⟩,0)
def uj(t:Tree)(o:qm):Wt :=
 let v:=eW t o.aQ
 let n:=bO t.aa v.1
 let s:=mj t o.rj
 let w:=B4 t n.ar s.1 s.2.1
 if v.2 != 0 then (t,nA,v.2) else
 if s.2.2 != 0 then (t,nA,s.2.2) else
 if w.2 != 0 then (t,nA,w.2) else
 (w.1,⟨0,n.ar,0,0,0,[],[]⟩,0)
def oa(t:Tree)(o:qm):Wt :=
 let s:=mj t o.aQ
 let w:=wv t s.1 s.2.1
 if s.2.2 != 0 then (t,nA,s.2.2) else
 if w.2.2 != 0 then (t,nA,w.2.2) else
 (w.1,⟨0,w.2.1,0,0,0,[],[]⟩,0)
def pL(t:Tree)(o:qm):Wt :=
 let s:=mj t o.aQ
 let u:=mj t o.rj
 let l:=eB t.aa s.1 s.2.1
 let w:=wR t s.1 s.2.1 u.1 u.2.1
 if s.2.2 != 0 then (t,nA,s.2.2) else
 if u.2.2 != 0 then (t,nA,u.2.2) else
 if w.2.2 != 0 then (t,nA,w.2.2) else
 (w.1,⟨0,l.1,0,0,0,[],[]⟩,0)
def fQ(t:Tree)(o:qm):Wt :=
 if o.kind=1 then rZ t o else if o.kind=2 then ve t o else if o.kind=3 then uj t o else if o.kind=4 then oa t o else if o.kind=5 then pL t o else if o.kind=6 then uk t o else sa t o
def rM(l:List Node)(t:Tree):Tree:=l.foldl (fun u n=>if n.kind==1&&n.df==0 then (pc u n.ar).1 else u) t
def gS(t:Tree):Tree:=rM t.aa t
def nj(l:List Piece)(s:Bytes):Nat:=l.countP fun p=>ki s p.aQ
def vR(l:List Piece)(t:Tree)(o:qm):Bool :=
 if o.kind=4 then (eW t o.aQ).2==0&&((gh o.aQ).2.2==0&&decide (0<nj l o.aQ))
 else if o.kind=5 then (eW t o.aQ).2==0&&((gh o.aQ).2.2==0&&((gh o.rj).2.2==0&&decide (0<nj l o.aQ+nj l o.rj)))
 else false
def ug(o:qm):Bool:=(decide (1<=o.kind)&&decide (o.kind<=7))&&(decide (0<=o.kD)&&decide (o.kD<16))
def vL(l:List Piece)(t:Tree)(o:qm):Tree×Pp :=
 if ug o=false then (t,nD 1)
 else if vR l t o then (t,nD 180)
 else if (fQ t o).2.2 != 0 then (t,nD (fQ t o).2.2)
 else if (kU l (gS (fQ t o).1).aa).2=false then (t,nD 91)
 else (gS (fQ t o).1,(fQ t o).2.1)
def tg(t:Tree)(o:qm):Tree×Pp:=if (fQ t o).2.2 != 0 then (t,nD (fQ t o).2.2) else (gS (fQ t o).1,(fQ t o).2.1)
section
variable {t:Tree} {cz:Int->Nat} {l:List Piece}
def D0(h:cF t cz 0)(o:qm):∃dep',cF (fQ t o).1 dep' 0:=by
 unfold fQ;split
 ·unfold rZ; split<;>exact⟨cz,h⟩
 split
 ·unfold ve;dsimp only;split
  ·exact⟨cz,h⟩
  split
  ·exact⟨cz,h⟩
  exact Cx h _ _ _ fun h=>h
 split
 ·unfold uj;dsimp only;split
  ·exact⟨cz,h⟩
  split
  ·exact⟨cz,h⟩
  split
  ·exact⟨cz,h⟩
  exact⟨cz,Mr h _ _ _ fun h=>h⟩
 split
 ·unfold oa;dsimp only;split
  ·exact⟨cz,h⟩
  split
  ·exact⟨cz,h⟩
  exact⟨cz,G5 h _ _⟩
 split
 ·unfold pL;dsimp only;split
  ·exact⟨cz,h⟩
  split
  ·exact⟨cz,h⟩
  split
  ·exact⟨cz,h⟩
  exact Mw h _ _ _ _ fun h=>h
 split
 ·unfold uk;dsimp only;split
  ·exact⟨cz,h⟩
  split<;>exact⟨cz,h⟩
 ·unfold sa;dsimp only;split<;>exact⟨cz,h⟩
def sM:∀(l:List Node)(t:Tree),cF t cz 0->cF (rM l t) cz 0
 | [],_,h=>h
 |n::l,t,h=>by
  unfold rM;rw[bB];refine sM l _ ?_;split
  ·exact EM h _
  ·exact h
def Ab(l:List Node)(t:Tree)(h:∀n,n∈l->n.kind=1->n.df≠0):rM l t=t:=by
 induction l with
 |nil=>rfl
 |cons n l ih =>
  unfold rM
  rw[bB,aj (by
   simp only[bm,eG,not_and];exact h n aG)]
  exact ih fun m hm=>h m (aP _ hm)
def FT(h:cF t cz 0)(m:rO l t.aa):gS t=t :=
 Ab _ _ fun n hn hk e=>by
  have hf:=(fp h.jK.iW).2 ⟨hn,rfl⟩;obtain⟨d,x,h1,_,h3,h4⟩:=m.kept _ _ hf hk;have hc:0<mJ t.aa n.ar:=pS.2 ⟨d,x,(cr h1).1,h3,h4⟩;have:=h.df _ _ hf;split at this<;>omega
structure FI(l:List Piece)(t:Tree):Prop where
 rt:∃cz,cF t cz 0
 prt:kc l
 may:rO l t.aa
def FI.do(h:FI l t)(o:qm):FI l (vL l t o).1:=by
 obtain⟨cz,hg⟩:=h.rt;unfold vL;split
 ·exact h
 split
 ·exact h
 split
 ·exact h
 split
 ·exact h
 rename_i hm;obtain⟨dep',h1⟩:=D0 hg o;have h2:=sM (fQ t o).1.aa _ h1;exact⟨⟨dep',h2⟩,h.prt,(vp h2 h.prt).1 (by simpa[gS] using hm)⟩
def FI.join(h:FI l t)(s:Bytes):FI (mW l s).1 t:=by
 obtain⟨cz,hg⟩:=h.rt;exact⟨⟨cz,hg⟩,Ra h.prt,TL hg h.prt h.may⟩
def FI.move(h:FI l t)(s:Bytes)(to:Int):FI (nV l s to).1 t :=
 ⟨h.rt,TQ h.prt,IM Du h.may⟩
def sI(g:Int):List Piece:=[⟨[47],g,1⟩]
def Xm{g:Int}(h:nU g=true):kc (sI g):=by
 simp only[nU,bm,bt] at h;refine⟨⟨_,[],rfl,rfl⟩,by simp[sI],fun p hp=>?_,by simp[sI]⟩
 rw[sI,bU] at hp;subst hp;exact⟨rfl,h.1,h.2,dk,dk⟩
def Fm(g:Int)(s:Bytes):dS (sI g) s=0:=by simp[dS,sI,rC]
def TS{g:Int}(h:cF t cz 0)(hk:∀i n,find t.aa i=some n->n.kind=1->∃d e,find t.aa d.ar=some d/\d.kind=2/\e∈d.aK/\e.ar=i):rO (sI g) t.aa:=by
 obtain⟨r,hr,hrk,_⟩:=h.root;refine⟨fun p hp=>?_,hk,fun d e d' e' n v w _ _ _ _ _ _ _ hv hw=>?_⟩
 ·rw[sI,bU] at hp;subst hp;exact⟨1,r,rfl,hr,hrk⟩
 ·obtain⟨_,_,rfl⟩:=hv;obtain⟨_,_,rfl⟩:=hw;rw[Fm,Fm]
end
section
variable {t t':Tree} {cz dep':Int->Nat} {l:List Piece}
def Di(h:cF t cz 0)(h':cF t' dep' 0)(hl:kc l)(m:rO l t.aa)(m':rO l t'.aa){D:Int->Prop}{g:Int}(hf:∀i,¬D i->find t'.aa i=find t.aa i)
  (hL:∀i v,¬D i->va l t.aa i v->va l t'.aa i v) (ha:∀i n,D i->find t.aa i=some n->kX l t.aa i≠g) (hb:∀i n,D i->find t'.aa i=some n->kX l t'.aa i≠g) :
  (t.aa.filter fun n=>kX l t.aa n.ar==g)=t'.aa.filter fun n=>kX l t'.aa n.ar==g:=by
 have ge:∀i n,¬D i->find t.aa i=some n->kX l t'.aa i=kX l t.aa i:=fun i n hD hn=>by
  have a:=hL i _ hD (pH h hl m hn);have b:=pH h' hl m' (i:=i) (by rw[hf i hD]; exact hn)
  rw[kX,kX,Iv h' m' a b]
 refine Cb (h.jK.iW.sublist oH) (h'.jK.iW.sublist oH) fun n=>?_
 simp only[fj,eG];constructor
 ·rintro⟨hn,hg⟩;have hfn:=(fp h.jK.iW).2 ⟨hn,rfl⟩;have hD:¬D n.ar:=fun hD=>ha _ _ hD hfn hg
  have hfn':find t'.aa n.ar=some n:=by rw[hf _ hD]; exact hfn
  exact⟨(cr hfn').1,by rw[ge _ _ hD hfn]; exact hg⟩
 ·rintro⟨hn,hg⟩;have hfn':=(fp h'.jK.iW).2 ⟨hn,rfl⟩;have hD:¬D n.ar:=fun hD=>hb _ _ hD hfn' hg
  have hfn:find t.aa n.ar=some n:=by rw[<-hf _ hD]; exact hfn'
  exact⟨(cr hfn).1,by rw[<-ge _ _ hD hfn]; exact hg⟩
def qq(l:List Piece)(s:Bytes)(g:Int):Bool:=(List.range ((bI s).1.length+1)).any fun i=>(nB l (dS l (mu ((bI s).1.take i)))).group==g
def Gi{s:Bytes}{g:Int}(h:qq l s g=false){A B:List Bytes}(hs:(bI s).1=A++B):(nB l (dS l (jP A))).group≠g:=by
 intro e
 have:qq l s g=true:=by
  unfold qq;rw[List.any_eq_true];refine⟨A.length,by rw[gH,hs]; simp; omega,?_⟩
  rw[hs,qF,List.take_left];simpa using e
 rw[this] at h; cases h
def wb(h:cF t cz 0)(hl:kc l)(m:rO l t.aa){i v:Int}{n:Node}(hn:find t.aa i=some n)(hv:va l t.aa i v):kX l t.aa i=(nB l v.toNat).group:=by
 rw[kX,Iv h m (pH h hl m hn) hv]
def xW(h:cF t cz 0){d:Node}{e:eM}{i v:Int}{n:Node}(hd:find t.aa d.ar=some d)(he:e∈d.aK)(hi:e.ar=i)(hn:find t.aa i=some n)(hk:n.kind=1)(hv:Dh l t.aa d.ar v):va l t.aa i v:=by
 have hdk:d.kind=2:=by
  rcases h.kind _ _ hd with h1|h1
  ·rw[(h.file _ _ hd h1).1] at he; cases he
  ·exact h1
 refine⟨fun n' hn' hk'=>?_,fun n' hn' _=>⟨d,e,hd,hdk,he,hi,hv⟩,⟨n,hn⟩⟩
 rw[hn] at hn'; cases hn';rw[hk] at hk'; cases hk'
def ui{i v:Int}{n:Node}(hn:find t.aa i=some n)(hk:n.kind=2)(hv:Dh l t.aa i v):va l t.aa i v:=by
 refine⟨fun _ _ _=>hv,fun n' hn' hk'=>?_,⟨n,hn⟩⟩
 rw[hn] at hn'; cases hn';rw[hk] at hk'; cases hk'
def E8(h:cF t cz 0)(h':cF t' dep' 0){D:Int->Prop}(hf:∀i,¬D i->find t'.aa i=find t.aa i)
  (hw:∀L i n,Way t.aa 1 L i->find t.aa i=some n->n.kind=2->(∃n',find t'.aa i=some n')->Way t'.aa 1 L i)
  (he:∀d e,find t.aa d.ar=some d->e∈d.aK->¬D e.ar->∃d',find t'.aa d.ar=some d'/\d'.ar=d.ar/\e∈d'.aK):∀i v,¬D i->va l t.aa i v->va l t'.aa i v:=by
 intro i v hD hv;obtain⟨n,hn⟩:=hv.ex;have hn':find t'.aa i=some n:=by rw[hf i hD]; exact hn
 rcases h.kind _ _ hn with hk|hk
 ·obtain⟨d,e,h1,h2,h3,h4,L,h5,h6⟩:=hv.file n hn hk;obtain⟨d',g1,g2,g3⟩:=he d e h1 h3 (by rw[h4]; exact hD)
  refine xW h' (d:=d') (e:=e) (by rw[g2]; exact g1) g3 h4 hn' hk ⟨L,?_,h6⟩
  rw[g2];exact hw L _ d h5 h1 h2 ⟨d',g1⟩
 ·obtain⟨L,h5,h6⟩:=hv.dir n hn hk;exact ui hn' hk ⟨L,hw L _ n h5 hn hk ⟨n,hn'⟩,h6⟩
def Hq(h:cF t cz 0){d kind:Int}{x:Bytes}(hok:(nL t d x kind).2.2=0):∃dN,find t.aa d=some dN/\dN.kind=2/\dB x=true/\eE dN.aK x=none/\d≠t.next/\find t.aa t.next=none /\
  ∀i,find (nL t d x kind).1.aa i=if i=d then some { dN with aK:=tu dN.aK ⟨x,t.next,t.ae⟩ } else if i=t.next then some ⟨t.next,kind,1,[],[],if kind==2 then d else 0⟩ else find t.aa i:=by
 have iC:find t.aa t.next=none:=by
  cases hz:find t.aa t.next with
  |none=>rfl
  |some m=>have:=h.num _ _ hz; omega
 unfold nL at hok ⊢;split at hok
 ·cases hok
 rename_i c1;rw[aj c1];split at hok
 ·rename_i c2;simp only at hok;rw[hok] at c2; cases c2
 rename_i c2;rw[aj c2];split at hok
 ·cases hok
 rename_i c3;rw[aj c3];obtain⟨dN,hd,hk,hx,he,_⟩:=CU (by simpa using c2)
 have hne:d≠t.next:=by
  rintro rfl; rw[iC] at hd; cases hd
 have hfd:find (eS t.aa ⟨t.next,kind,1,[],[],if kind==2 then d else 0⟩) d=some dN:=by
  rw[hV h.jK.iW,aj hne]; exact hd
 refine⟨dN,hd,hk,hx,he,hne,iC,fun i=>?_⟩
 unfold hU;simp only[hfd,bQ];rw[hV (oe h.jK.iW _)];simp only[hV h.jK.iW,h.ar hd]
def Jl(h:cF t cz 0){u:List Node}{d:Int}{dN:Node}{en:eM}(hd:find t.aa d=some dN)(hno:eE dN.aK en.name=none)(hu:∀i n,find t.aa i=some n->i≠d->find u i=some n)(hud:find u d=some { dN with aK:=tu dN.aK en }) :
  ∀ {L:List Bytes} {i j:Int},Way t.aa i L j->Way u i L j
 | [],i,j,hw=>hw
 |s::L,i,j,⟨n,e,h1,h2,h3,h4,h5⟩=>by
  have ih:=Jl h hd hno hu hud h5
  by_cases hi:i=d
  ·subst hi;rw[hd] at h1; cases h1;have hne:s≠en.name:=by rintro rfl; rw[hno] at h4; cases h4
   exact⟨_,e,hud,h2,h3,by simp only; rw[yQ (h.jK.aK _ (cr hd).1) hno,aj hne]; exact h4,ih⟩
  ·exact⟨n,e,hu i n h1 hi,h2,h3,h4,ih⟩
def Ni(h:cF t cz 0)(hl:kc l)(m:rO l t.aa){d kind:Int}{x:Bytes}{P:List Bytes}{s:Bytes}{g:Int}(hs:bI s=(P++[x],0))(hw:Way t.aa 1 P d)(hok:(nL t d x kind).2.2=0)
  (h':cF (nL t d x kind).1 dep' 0) (m':rO l (nL t d x kind).1.aa) (hg:qq l s g=false) :
  (t.aa.filter fun n=>kX l t.aa n.ar==g)=(nL t d x kind).1.aa.filter fun n=>kX l (nL t d x kind).1.aa n.ar==g:=by
 obtain⟨dN,hd,hk,hx,he,hne,iC,hf⟩:=Hq h hok;generalize (nL t d x kind).1=u at h' m' hf ⊢;have hdi:=h.ar hd;have hud:find u.aa d=some { dN with aK:=tu dN.aK ⟨x,t.next,t.ae⟩ }:=by rw[hf,av rfl]
 have Md:find u.aa t.next=some ⟨t.next,kind,1,[],[],if kind==2 then d else 0⟩:=by rw[hf,aj (dM hne),av rfl]
 have hasc:=h.jK.aK _ (cr hd).1
 have hwm:∀ {L i j},Way t.aa i L j->Way u.aa i L j:=fun {L i j}=>Jl h hd he (en:=⟨x,t.next,t.ae⟩) (fun i n hn hi=>by
  rw[hf,aj hi,aj (by rintro rfl; rw[iC] at hn; cases hn)]; exact hn) hud
 have n1:(nB l (dS l (jP P))).group≠g:=Gi hg (A:=P) (B:=[x]) (by rw[hs])
 have n2:(nB l (dS l (jP (P++[x])))).group≠g:=Gi hg (A:=P++[x]) (B:=[]) (by rw[hs]; simp)
 refine Di h h' hl m m' (D:=fun i=>i=d\/i=t.next) (fun i hD=>?_) (E8 h h' (D:=fun i=>i=d\/i=t.next) (fun i hD=>?_) (fun L i n hw _ _ _=>hwm hw) (fun d0 e0 h0 he0 hD=>?_)) (fun i n hD hn=>?_) (fun i n hD hn=>?_)
 ·simp only[kB] at hD;rw[hf,aj hD.1,aj hD.2]
 ·simp only[kB] at hD;rw[hf,aj hD.1,aj hD.2]
 ·by_cases hdd:d0.ar=d
  ·rw[hdd] at h0;rw[hd] at h0; cases h0;exact⟨{ dN with aK:=tu dN.aK ⟨x,t.next,t.ae⟩ },dj (congrArg (find u.aa) hdd) hud,rfl,(xk hasc (e:=⟨x,t.next,t.ae⟩) he).2 (.inr he0)⟩
  ·exact⟨d0,by rw[hf,aj hdd,aj (by rintro e; rw[e,iC] at h0; cases h0)]; exact h0,rfl,he0⟩
 ·rcases hD with rfl|rfl
  ·rw[wb h hl m hn (ui hd hk ⟨P,hw,rfl⟩)];simpa using n1
  ·rw[iC] at hn; cases hn
 ·rcases hD with rfl|rfl
  ·rw[wb h' hl m' hn (ui hud hk ⟨P,hwm hw,rfl⟩)];simpa using n1
  ·have hi':eE (tu dN.aK ⟨x,t.next,t.ae⟩) x=some ⟨x,t.next,t.ae⟩:=by rw[yQ hasc he,av rfl]
   rcases h'.kind _ _ Md with hk'|hk'
   ·rw[wb h' hl m' hn (xW h' (d:={ dN with aK:=tu dN.aK ⟨x,t.next,t.ae⟩ }) (dj (congrArg (find u.aa) hdi) hud) (eH hi').1 rfl Md hk' (by show Dh l u.aa dN.ar _; rw[hdi]; exact⟨P,hwm hw,rfl⟩))]
    simpa using n1
   ·rw[wb h' hl m' hn (ui Md hk' ⟨P++[x],nb.2 ⟨d,hwm hw,_,_,hud,hk,hx,hi',rfl⟩,rfl⟩)];simpa using n2
def vZ:∀(r:List Node)(t:Tree),Rt t->∀i,find (rM r t).aa i=find t.aa i\/(find (rM r t).aa i=none/\∃n,find t.aa i=some n/\k9 n=true)
 | [],_,_,_ => .inl rfl
 |k::r,t,h,i=>by
  unfold rM;rw[bB];split
  ·have hf:=NT h k.ar i;have ih:=vZ r _ (h.free k.ar) i
   by_cases hc:i=k.ar/\∃n,find t.aa k.ar=some n/\k9 n=true
   ·rw[av hc] at hf;obtain⟨rfl,hn⟩:=hc;rw[hf] at ih;refine .inr ⟨?_,hn⟩;rcases ih with h1|⟨h1,_⟩<;>exact h1
   ·rw[aj hc] at hf;rwa[hf] at ih
  ·exact vZ r t h i
def Dr(h:cF t cz 0)(m:rO l t.aa){i:Int}{n:Node}(hn:find t.aa i=some n):k9 n=false:=by
 cases ho:k9 n with
 |false=>rfl
 |true =>
  simp only[k9,bm,eG] at ho;obtain⟨d,x,h1,_,h3,h4⟩:=m.kept _ _ hn ho.1;have hc:0<mJ t.aa i:=pS.2 ⟨d,x,(cr h1).1,h3,h4⟩;have:=h.df _ _ hn;split at this<;>omega
def X1(h:cF t cz 0){d:Int}{x:Bytes}(hok:(wv t d x).2.2=0):∃dN e m,find t.aa d=some dN/\dN.kind=2/\dB x=true/\eE dN.aK x=some e/\find t.aa e.ar=some m/\m.aK=[]/\e.ar≠d/\(wv t d x).2.1=e.ar /\
  ∀i,find (wv t d x).1.aa i=if i=e.ar then yp m else if i=d then some { dN with aK:=fO dN.aK x } else find t.aa i:=by
 unfold wv at hok ⊢;split at hok
 ·rename_i c1;simp only at hok;rw[hok] at c1; cases c1
 rename_i c1;rw[aj c1];split at hok
 ·cases hok
 rename_i c2;rw[aj c2];obtain⟨dN,e,d1,d2,d3,d4,d5⟩:=look_ok (by simpa using c1)
 rw[d5] at c2 ⊢;obtain⟨_,_,_,_,m,hm,_⟩:=h.sX _ _ e d1 (eH d4).1;simp only[bO,hm,bQ,bt] at c2;have hne:e.ar≠d:=h.vX d1 (eH d4).1;refine⟨dN,e,m,d1,d2,d3,d4,hm,cf.1 aM,hne,rfl,fun i=>?_⟩
 have hl:=jh h.jK.iW d1 (s:=x);simp only;rw[qx (lP h.jK.iW d x) (n:=m) (by rw[hl,aj hne]; exact hm),hl]
def Jk(h:cF t cz 0){u:List Node}{d:Int}{dN m:Node}{e:eM}{x:Bytes}(hd:find t.aa d=some dN)(he:eE dN.aK x=some e)(hm:find t.aa e.ar=some m)(hme:m.aK=[])
  (hu:∀i n,find t.aa i=some n->n.kind=2->i≠d->i≠e.ar->find u i=some n) (hud:find u d=some { dN with aK:=fO dN.aK x }) :
  ∀ {L:List Bytes} {i j:Int},Way t.aa i L j->j≠e.ar->i≠e.ar->Way u i L j
 | [],i,j,hw,_,_=>hw
 |s::L,i,j,⟨n,e1,h1,h2,h3,h4,h5⟩,hj,hi=>by
  have hne:e1.ar≠e.ar:=fun hc=>by
   cases L with
   |nil=>exact hj (h5.symm.trans hc)
   |cons b L =>
    obtain⟨n2,e2,b1,_,_,b4,_⟩:=h5;rw[hc,hm] at b1; cases b1;have:=(eH b4).1;rw[hme] at this; cases this
  have ih:=Jk h hd he hm hme hu hud h5 hj hne
  by_cases hid:i=d
  ·subst hid;rw[hd] at h1; cases h1;have hsx:s≠x:=by rintro rfl; rw[he] at h4; cases h4; exact hne rfl
   exact⟨_,e1,hud,h2,h3,by simp only; rw[pF hsx]; exact h4,ih⟩
  ·exact⟨n,e1,hu i n h1 h2 hid hi,h2,h3,h4,ih⟩
def PN(h:cF t cz 0)(hl:kc l)(m:rO l t.aa){d:Int}{x:Bytes}{P:List Bytes}{s:Bytes}{g:Int}(hs:bI s=(P++[x],0))(hw:Way t.aa 1 P d)(hok:(wv t d x).2.2=0)
  (hu:cF (wv t d x).1 dep' 0) (m':rO l (gS (wv t d x).1).aa) (hg:qq l s g=false) :
  (t.aa.filter fun n=>kX l t.aa n.ar==g)=(gS (wv t d x).1).aa.filter fun n=>kX l (gS (wv t d x).1).aa n.ar==g:=by
 obtain⟨dN,e,mN,hd,hk,hx,he,hm,hme,hne,_,hf⟩:=X1 h hok;generalize (wv t d x).1=u0 at hu m' hf ⊢;have h':=sM u0.aa _ hu;have hsw:=vZ u0.aa u0 ⟨_,hu⟩;unfold gS at m' ⊢;generalize rM u0.aa u0=u at h' m' hsw ⊢;have hdi:=h.ar hd;have hasc:=h.jK.aK _ (cr hd).1;obtain⟨he1,he2⟩:=eH he
 have hfu:∀i,i≠d->i≠e.ar->find u.aa i=find t.aa i:=fun i h1 h2=>by
  have:=hf i;rw[aj h2,aj h1] at this;rcases hsw i with hc|⟨hc,n,hn,ho⟩
  ·rw[hc,this]
  ·rw[this] at hn;rw[Dr h m hn] at ho; cases ho
 have hud:find u.aa d=some { dN with aK:=fO dN.aK x }:=by
  have:=hf d;rw[aj (dM hne),av rfl] at this;rcases hsw d with hc|⟨_,n,hn,ho⟩
  ·rw[hc,this]
  ·rw[this] at hn; cases hn;rw[Ka (show({ dN with aK:=fO dN.aK x }:Node).kind=2 from hk)] at ho; cases ho
 have root:(1:Int)≠e.ar:=fun hc=>by
  have:=(h.sX _ _ _ hd he1).2.2.1;exact this hc.symm
 have hwm:∀ {L j},Way t.aa 1 L j->j≠e.ar->Way u.aa 1 L j:=fun {L j} hw hj=>Jk h hd he hm hme (fun i n hn _ h1 h2=>by rw[hfu i h1 h2]; exact hn) hud hw hj root
 have n1:(nB l (dS l (jP P))).group≠g:=Gi hg (A:=P) (B:=[x]) (by rw[hs])
 have n2:(nB l (dS l (jP (P++[x])))).group≠g:=Gi hg (A:=P++[x]) (B:=[]) (by rw[hs]; simp)
 have hDd:Dh l t.aa d (dS l (jP P)):=⟨P,hw,rfl⟩
 have pair:∀d2 e2,find u.aa d2.ar=some d2->e2∈d2.aK->e2.ar=e.ar->mN.kind=1->∃d3,find t.aa d3.ar=some d3/\d3.ar=d2.ar/\e2∈d3.aK:=fun d2 e2 h2 he2 hi2 hmk=>by
  by_cases hdd:d2.ar=d
  ·rw[hdd,hud] at h2; injection h2 with h2
   refine⟨dN,by rw[hdi]; exact hd,by rw[hdi,hdd],?_⟩
   rw[<-h2] at he2;exact(AZ.1 he2).1
  ·by_cases hee:d2.ar=e.ar
   ·exfalso;rw[hee] at h2;rcases hsw e.ar with hc|⟨hc,_⟩
    ·rw[hc,hf,av rfl,yp,aj (by simp[hmk])] at h2
     injection h2 with h2
     rw[<-h2] at he2;simp only[hme] at he2;cases he2
    ·rw[hc] at h2; cases h2
   ·rw[hfu _ hdd hee] at h2;exact⟨d2,h2,rfl,he2⟩
 refine Di h h' hl m m' (D:=fun i=>i=d\/i=e.ar) (fun i hD=>?_) (E8 h h' (D:=fun i=>i=d\/i=e.ar) (fun i hD=>?_) (fun L i n hw hn hk2 hn'=>?_) (fun d0 e0 h0 he0 hD=>?_)) (fun i n hD hn=>?_) (fun i n hD hn=>?_)
 ·simp only[kB] at hD;exact hfu i hD.1 hD.2
 ·simp only[kB] at hD;exact hfu i hD.1 hD.2
 ·refine hwm hw ?_;rintro rfl;rw[hm] at hn; cases hn;obtain⟨n',hn'⟩:=hn';rcases hsw e.ar with hc|⟨hc,_⟩
  ·rw[hc,hf,av rfl,yp,av (by simp[hk2])] at hn'; cases hn'
  ·rw[hc] at hn'; cases hn'
 ·simp only[kB] at hD
  by_cases hdd:d0.ar=d
  ·rw[hdd,hd] at h0; cases h0;refine⟨{ dN with aK:=fO dN.aK x },dj (congrArg (find u.aa) hdd) hud,rfl,AZ.2 ⟨he0,fun hc=>?_⟩⟩
   have:=(o6 hasc).2 ⟨he0,hc⟩;rw[he] at this; cases this;exact hD.2 rfl
  ·by_cases hee:d0.ar=e.ar
   ·rw[hee,hm] at h0; cases h0;rw[hme] at he0; cases he0
   ·exact⟨d0,by rw[hfu _ hdd hee]; exact h0,rfl,he0⟩
 ·rcases hD with rfl|rfl
  ·rw[wb h hl m hn (ui hd hk hDd)];simpa using n1
  ·rcases h.kind _ _ hm with hmk|hmk
   ·rw[wb h hl m hn (xW h (d:=dN) (by rw[hdi]; exact hd) he1 rfl hm hmk (by rw[hdi]; exact hDd))]
    simpa using n1
   ·rw[wb h hl m hn (ui hm hmk ⟨P++[x],nb.2 ⟨d,hw,_,_,hd,hk,hx,he,rfl⟩,rfl⟩)];simpa using n2
 ·rcases hD with rfl|rfl
  ·rw[wb h' hl m' hn (ui hud hk ⟨P,hwm hw (dM hne),rfl⟩)];simpa using n1
  ·have hmk:mN.kind=1:=by
    rcases h.kind _ _ hm with hmk|hmk
    ·exact hmk
    ·exfalso;rcases hsw e.ar with hc|⟨hc,_⟩
     ·rw[hc,hf,av rfl,yp,av (by simp[hmk])] at hn; cases hn
     ·rw[hc] at hn; cases hn
   have hnk:n.kind=1:=by
    rcases hsw e.ar with hc|⟨hc,_⟩
    ·rw[hc,hf,av rfl,yp,aj (by simp[hmk])] at hn
     injection hn with hn
     rw[<-hn]; exact hmk
    ·rw[hc] at hn; cases hn
   obtain⟨d2,e2,q1,q2,q3,q4⟩:=m'.kept _ _ hn hnk;obtain⟨d3,r1,r2,r3⟩:=pair d2 e2 q1 q3 q4 hmk
   have hk3:d3.kind=2:=by
    rcases h.kind _ _ r1 with h1|h1
    ·rw[(h.file _ _ r1 h1).1] at r3; cases r3
    ·exact h1
   obtain⟨L,hL,_⟩:=h.G8 (cz d3.ar) _ d3 r1 hk3 rfl
   have hne3:d3.ar≠e.ar:=fun hc=>by
    rw[hc,hm] at r1; cases r1;rw[hme] at r3; cases r3
   have e0:=m.one d3 e2 dN e _ _ _ r1 r3 (by rw[hdi]; exact hd) he1 q4 (by rw[q4]; exact hm) hmk ⟨L,hL,rfl⟩ (by rw[hdi]; exact hDd)
   rw[wb h' hl m' hn (xW h' q1 q3 q4 hn hnk (by rw[<-r2]; exact⟨L,hwm hL hne3,rfl⟩)),e0]
   simpa using n1
end
structure qZ where
 kind:UInt8
 op:qm
 aQ:Bytes
 group:Int
def jH(s:qZ):List ag:=Aj s.kind::(fD s.op++[.str s.aQ,.int .i64 s.group])
def Kc(s:qZ):ag := .agg (jH s)
abbrev zE(l:List qZ):ag := .slice .sh (l.map Kc)
def vj(l:List Piece)(t:Tree)(s:Bytes)(g:Int):List Piece×Int :=
 if (eW t s).2 != 0 then (l,(eW t s).2)
 else if (bO t.aa (eW t s).1).kind != 2 then (l,73)
 else if (vi l s g).2 != 0 then (l,(vi l s g).2)
 else if (kU (vi l s g).1 t.aa).2=false then (l,91)
 else ((vi l s g).1,0)
def stepT(x:List Piece×Tree)(s:qZ):(List Piece×Tree)×Pp :=
 match s.kind.toNat % 5 with
 |1|2=>(((vj x.1 x.2 s.aQ s.group).1,x.2),nD (vj x.1 x.2 s.aQ s.group).2)
 |3=>(((mW x.1 s.aQ).1,x.2),nD (mW x.1 s.aQ).2)
 |4=>(((nV x.1 s.aQ s.group).1,x.2),nD (nV x.1 s.aQ s.group).2)
 |_=>((x.1,(vL x.1 x.2 s.op).1),(vL x.1 x.2 s.op).2)
def fh(x:List Piece×Tree):rR:=bG x.1 x.2
section
variable {t:Tree} {cz:Int->Nat} {l:List Piece}
theorem FI.cut(h:FI l t)(s:Bytes)(g:Int):FI (vj l t s g).1 t:=by
 obtain⟨cz,hg⟩:=h.rt;unfold vj;split
 ·exact h
 split
 ·exact h
 split
 ·exact h
 split
 ·exact h
 rename_i hm;exact⟨⟨cz,hg⟩,Cd h.prt,(vp hg (Cd h.prt)).1 (by simpa using hm)⟩
def FI.step{x:List Piece×Tree}(h:FI x.1 x.2)(s:qZ):FI (stepT x s).1.1 (stepT x s).1.2:=by
 unfold stepT;split
 ·exact h.cut _ _
 ·exact h.cut _ _
 ·exact h.join _
 ·exact h.move _ _
 ·exact h.do _
def FI.new{g:Int}(hg:nU g=true):FI (sI g) p8:=by
 refine⟨⟨_,IU⟩,Xm hg,TS IU fun i n hi hk=>?_⟩
 simp only[p8,find,List.find?_cons,List.find?_nil] at hi;split at hi
 ·cases hi; cases hk
 ·cases hi
def TF{k:Node->Int}{aa:List Node}{c:Int}(h0:0<=c)(h8:c<8)(hk:∀n,n∈aa->k n=c)(hne:aa≠[]):qW k aa=[⟨c,aa⟩]:=by
 have hf:∀g:Nat,(aa.filter fun n=>k n==(g:Int))=if (g:Int)=c then aa else []:=fun g=>by
  split
  ·rename_i hg;exact gG.2 fun n hn=>by simp[hk n hn,hg]
  ·rename_i hg;exact List.filter_eq_nil_iff.2 fun n hn=>by simp[hk n hn,dM hg]
 unfold qW;simp only[hf];obtain⟨n,rfl⟩:∃n:Nat,c=n:=⟨c.toNat,aM⟩;have hn:n<8:=aM;have:n=0\/n=1\/n=2\/n=3\/n=4\/n=5\/n=6\/n=7:=aM
 have he:aa.isEmpty=false:=by cases aa with
  |nil=>exact absurd rfl hne
  |cons a r=>rfl
 rcases this with rfl|rfl|rfl|rfl|rfl|rfl|rfl|rfl<;>simp[List.range,List.range.loop,hne]
def FI.alone(h:FI l t){p:Piece}(hl:l=[p]):(bG l t).dV=[⟨p.group,t.aa⟩]:=by
 obtain⟨cz,hg⟩:=h.rt;have hp:=h.prt.ok p (by rw[hl]; simp)
 refine TF hp.2.1 hp.2.2.1 (fun n hn=>?_) (fun e=>?_)
 ·have hf:=(fp hg.jK.iW).2 ⟨hn,rfl⟩;obtain⟨k,q⟩:=(pH hg h.prt h.may hf).dh hg;have h2:=q.lt hg h.prt;rw[hl] at h2;have:(vn l t.aa n.ar).toNat=0:=by rw[hl]; simp at h2; omega
  rw[kX,this,hl]; rfl
 ·obtain⟨r,hr,_⟩:=hg.root;rw[e] at hr; cases hr
def IP{k:Node->Int}{aa:List Node}{x:nz}(hx:x∈qW k aa):x.aa=(aa.filter fun n=>k n==x.group)/\x.aa≠[]/\0<=x.group/\x.group<8:=by
 simp only[qW,ml] at hx;obtain⟨g,hg,h⟩:=hx;split at h
 ·cases h
 ·rename_i he;injection h with h
  subst h;refine⟨rfl,fun e=>he (by simp only at e; rw[e]; rfl),dk,?_⟩
  have:=gH.1 hg;simp only; omega
def TE{k:Node->Int}{aa:List Node}{g:Int}(h0:0<=g)(h8:g<8)(hne:(aa.filter fun n=>k n==g)≠[]):(⟨g,aa.filter fun n=>k n==g⟩:nz)∈qW k aa:=by
 simp only[qW,ml];refine⟨g.toNat,by rw[gH]; omega,?_⟩
 have:((g.toNat:Nat):Int)=g:=aM;rw[this,aj];intro e;exact hne (List.isEmpty_iff.1 e)
def alone(h:FI l t){o:qm}(hk:o.kind≠3/\o.kind≠5){x:nz}(hx:x∈(bG l t).dV)(ha:qq l o.aQ x.group=false):∃y,y∈(bG l (vL l t o).1).dV/\y.group=x.group/\y.aa=x.aa:=by
 obtain⟨cz,hg⟩:=h.rt;obtain⟨h1,h2,h3,h4⟩:=IP hx;have hd:=h.do o
 have fin:∀t',(vL l t o).1=t'->(t.aa.filter fun n=>kX l t.aa n.ar==x.group)=(t'.aa.filter fun n=>kX l t'.aa n.ar==x.group)->∃y,y∈(bG l (vL l t o).1).dV/\y.group=x.group/\y.aa=x.aa:=fun t' e hs=>by
  rw[e];exact⟨_,TE h3 h4 (by rw[<-hs,<-h1]; exact h2),rfl,by rw[h1]; exact hs.symm⟩
 unfold vL at hd fin ⊢;split at hd
 ·rename_i c1;rw[av c1] at fin ⊢;exact fin t rfl rfl
 rename_i c1;rw[aj c1] at fin ⊢;split at hd
 ·rename_i c2;rw[av c2] at fin ⊢;exact fin t rfl rfl
 rename_i c2;rw[aj c2] at fin ⊢;split at hd
 ·rename_i c3;rw[av c3] at fin ⊢;exact fin t rfl rfl
 rename_i c3;rw[aj c3] at fin ⊢;split at hd
 ·rename_i c4;rw[av c4] at fin ⊢;exact fin t rfl rfl
 rename_i c4;rw[aj c4] at fin ⊢;refine fin _ rfl ?_;have same:gS t=t:=FT hg h.may
 by_cases k2:o.kind=2
 ·have hw:fQ t o=ve t o:=by unfold fQ; rw[aj aM,av k2]
  rw[hw] at c3 hd ⊢;unfold ve at c3 hd ⊢;dsimp only at c3 hd ⊢;split at c3
  ·rename_i c5; exact absurd c5 (by simpa using c3)
  rename_i c5;rw[aj c5] at hd ⊢;split at c3
  ·rename_i c6; exact absurd c6 (by simpa using c3)
  rename_i c6;rw[aj c6] at hd ⊢;obtain⟨P,s,f,p1,p2,p3⟩:=Jg (by simpa using c5)
  rw[p3] at c6 hd ⊢;simp only at c6 hd ⊢;have hok:(nL t f s o.n).2.2=0:=by simpa using c6
  obtain⟨dep',h'⟩:=Cx hg f s o.n fun h=>h
  obtain⟨dN,hdN,hdk,hx',he,hne,iC,hf⟩:=Hq hg hok
  have hsw:gS (nL t f s o.n).1=(nL t f s o.n).1:=by
   refine Ab _ _ fun n hn hk1 e0=>?_
   have hfn:=(fp h'.jK.iW).2 ⟨hn,rfl⟩;rw[hf] at hfn;split at hfn
   ·injection hfn with hfn
    rw[<-hfn] at hk1;simp only at hk1; omega
   ·split at hfn
    ·injection hfn with hfn
     rw[<-hfn] at e0; cases e0
    ·have:=Dr hg h.may hfn;simp[k9,hk1,e0] at this
  rw[hsw] at hd ⊢;exact Ni hg h.prt h.may p1 (uO.1 p2) hok h' hd.may ha
 by_cases k4:o.kind=4
 ·have hw:fQ t o=oa t o:=by unfold fQ; rw[aj aM,aj aM,aj aM,av k4]
  rw[hw] at c3 hd ⊢;unfold oa at c3 hd ⊢;dsimp only at c3 hd ⊢;split at c3
  ·rename_i c5; exact absurd c5 (by simpa using c3)
  rename_i c5;rw[aj c5] at hd ⊢;split at c3
  ·rename_i c6; exact absurd c6 (by simpa using c3)
  rename_i c6;rw[aj c6] at hd ⊢;obtain⟨P,s,f,p1,p2,p3⟩:=Jg (by simpa using c5)
  rw[p3] at c6 hd ⊢;simp only at c6 hd ⊢;exact PN hg h.prt h.may p1 (uO.1 p2) (by simpa using c6) (G5 hg f s) hd.may ha
 ·have hw:(fQ t o).1=t:=by
   unfold fQ;split
   ·unfold rZ; split<;>rfl
   rw[aj hk.1,aj hk.2];split
   ·unfold uk;dsimp only;split
    ·rfl
    split<;>rfl
   ·unfold sa;dsimp only;split<;>rfl
  rw[hw,same]
end
section
attribute [local irreducible] fP fm kM gK dH kr aq aL cH bP
def agw(z:Int):aq dp 246 [ka [],.func 219 [dC 0]] [cL [aH z]]=some (aH (-1),[cL [aH z]]):=by
 have h00:decide ((0:Int)<0)=false:=rfl;have hz:((0:Nat):Int)=0:=rfl;refine aw ?_;simp only[Zt,aeG,hz,EN,seval];rw[cv];simp only[aeG,h00,EN,seval]
end
def ahZ(z:Int):aL (aq dp) 246 [ka [],.func 219 [dC 0]] [cL [aH z]]=some (aH (-1),[cL [aH z]]) :=
 mS (ids:=[0]) rfl rfl (show kV [cL [aH z]] (jb [0]) [0]=some [cL [aH z]] from rfl) rfl rfl (agw z) rfl rfl rfl rfl rfl
section
attribute [local irreducible] fP fm kM gK dH kr aq aL cH bP
def agv(z:Int):aq dp 217 [ka [],.func 219 [dC 0]] [cL [aH z]]=some (ka [],[cL [aH z]]):=by
 have h11:((-1:Int) == -1)=true:=rfl;refine aw ?_;simp only[Zi,ajR,ahZ,h11,EN,seval]
end
def ahT(z:Int)(b0 b2 b3:dg):aL (aq dp) 217 [ka [],.func 219 [dC 1]] [b0,cL [aH z],b2,b3]=some (ka [],[b0,cL [aH z],b2,b3]) :=
 mS (ids:=[1]) rfl rfl (show kV [b0,cL [aH z],b2,b3] (jb [1]) [1]=some [cL [aH z]] from rfl) rfl rfl (agv z) rfl rfl rfl rfl rfl
def ZP(b0 b2 b3:dg)(xs:List ag)(z:Int):kV [b0,cL [aH z],b2,b3,.arr 3 0 xs] (jb [4,1]) [4,1]=some [.arr 3 0 xs,cL [aH z]]:=rfl
def amt(xs:List eM)(z:Int)(hn:xs.length<=100000)(h0:xs≠[])(hk:mX z xs≠[])(b0 b2 b3:dg):aL (aq dp) 217 [.cY 4 0 3 0 xs.length,.func 219 [dC 1]] [b0,cL [aH z],b2,b3,.arr 3 0 (xs.map gq)] =
  some (.cY 4 0 3 0 (mX z xs).length,[b0,cL [aH z],b2,b3,.arr 3 0 ((mX z xs++List.replicate (xs.length-(mX z xs).length) Ai).map gq)]):=by
 have h:=agu xs z hn h0;have hl:(mX z xs).length≠0:=fun hh=>hk (cf.1 hh)
 have hr:Uw (mX z xs).length = .cY 0 0 3 0 (mX z xs).length:=by simp[Uw,Gr,hl]
 rw[hr] at h;exact mS (ids:=[4,1]) rfl rfl (ZP ..) rfl rfl h rfl rfl rfl rfl rfl
def ahU(xs:List eM)(z:Int)(hn:xs.length<=100000)(h0:xs≠[])(hk:mX z xs=[])(b0 b2 b3:dg):aL (aq dp) 217 [.cY 4 0 3 0 xs.length,.func 219 [dC 1]] [b0,cL [aH z],b2,b3,.arr 3 0 (xs.map gq)] =
  some (ka [],[b0,cL [aH z],b2,b3,.arr 3 0 ((List.replicate xs.length Ai).map gq)]):=by
 have h:=agu xs z hn h0;have hr:Uw (mX z xs).length = ka []:=by simp[Uw,Gr,hk]
 rw[hr,hk] at h;simp only[bw,aF,cd] at h;exact mS (ids:=[4,1]) rfl rfl (ZP ..) rfl rfl h rfl rfl rfl rfl rfl
section
attribute [local irreducible] fP fm kM gK dH kr aq aL cH bP
end
section
def amO(n:eM):uX 2 (gq n)=n.ae:=rfl
def H8(x:eM):∀l:List eM,Gz 2 (gq x) (l.map gq)=(wH x l).map gq
 | []=>rfl
 |y::r=>by
  simp only[a8,Gz,wH,amO]
  by_cases h:x.ae<y.ae
  ·simp only[h,aE,a8]
  ·simp only[h,aC,a8,H8 x r]
def FN:∀l:List eM,FM 2 (l.map gq)=(nn l).map gq
 | []=>rfl
 |x::r=>by simp only[a8,FM,nn,FN r,H8]
def EY(x:eM):∀l,(wH x l).length=l.length+1
 | []=>rfl
 |y::r=>by simp only[wH]; split<;>simp[EY x r]
def zd:∀l,(nn l).length=l.length
 | []=>rfl
 |x::r=>by simp[nn,EY,zd r]
def La{l Z:List eM}{v:Nat}(hl:l.length<=1000000)(hn:(l.map eM.ae).Nodup):aq dp 220 [.cY 0 v 3 0 l.length,.func 221 []] [.arr 3 v ((l++Z).map gq)]=some (.tuple [],[.arr 3 v ((nn l++Z).map gq)]):=by
 refine gN (g:=wI 3 2 221) rfl ?_;unfold wI;simp only[nth];have ht:((l++Z).map gq).take l.length=l.map gq:=by simp[gI]
 have hd:((l++Z).map gq).drop l.length=Z.map gq:=dk;have hnd:((l.map gq).map (uX 2)).Nodup:=by rw[fY]; exact hn
 rw[ht,hd,Ja hnd,FN,<-bH];rw[gm]
 ·rfl
 ·refine⟨trivial,trivial,trivial,dk,trivial,aM,?_⟩
  ·intro x hx;obtain⟨n,_,rfl⟩:=cm.1 hx;rfl
def aiH(xs:List ag)(v:Nat)(b0 b1 b2 b3:dg):kV [b0,b1,b2,b3,.arr 3 v xs] (jb [4]) [4]=some [.arr 3 v xs]:=rfl
attribute [local irreducible] fP fm kM gK dH kr aq aL cH bP
structure Ca(o:qm):Prop where
 aQ:o.aQ.length<=90000
 rj:o.rj.length<=90000
 data:o.data.length<=90000
def cF.Md{t:Tree}{cz:Int->Nat}(h:cF t cz 0)(to:Int)(nm:Bytes):∀e,eE (gM t.aa to).1.aK nm=some e->(bO t.aa e.ar).ar≠to:=by
 intro e he;unfold gM at he;split at he
 ·cases he
 ·rename_i n hn;split at he
  ·have hem:=(eH he).1;obtain⟨_,_,_,_,m,hm,_⟩:=h.sX _ _ e hn hem;simp only[bO,hm,bQ,(cr hm).2];exact h.vX hn hem
  ·cases he
def amj(t:Tree)(ht:Rt t)(dir:Int)(s:Bytes)(kind:Int)(hs:s.length<=100000)(M:aO):aL (aq fc) 171 [.agg [aV t.aa,aH t.next,aH t.ae],aH dir,.str s,aH kind] M =
  some (.tuple [.agg [aV (nL t dir s kind).1.aa,aH (nL t dir s kind).1.next,aH (nL t dir s kind).1.ae],aH (nL t dir s kind).2.1,aH (nL t dir s kind).2.2],M):=by
 obtain⟨cz,h⟩:=ht;have:=ak6 t dir s kind (h.sz.up aM) h.jK hs trivial h.iC;rw[Vo h] at this;exact lS (cO this M)
def amk(t:Tree)(ht:Rt t)(ar dir:Int)(s:Bytes)(hs:s.length<=100000)(M:aO):aL (aq fc) 172 [.agg [aV t.aa,aH t.next,aH t.ae],aH ar,aH dir,.str s] M =
  some (.tuple [.agg [aV (B4 t ar dir s).1.aa,aH (B4 t ar dir s).1.next,aH (B4 t ar dir s).1.ae],aH (B4 t ar dir s).2],M):=by
 obtain⟨cz,h⟩:=ht;have:=ak7 t ar dir s (h.sz.up aM) h.jK hs trivial;rw[adr h] at this;exact lS (cO this M)
def aml(t:Tree)(ht:Rt t)(dir:Int)(s:Bytes)(hs:s.length<=100000)(M:aO):aL (aq fc) 174 [.agg [aV t.aa,aH t.next,aH t.ae],aH dir,.str s] M =
  some (.tuple [.agg [aV (wv t dir s).1.aa,aH (wv t dir s).1.next,aH (wv t dir s).1.ae],aH (wv t dir s).2.1,aH (wv t dir s).2.2],M):=by
 obtain⟨cz,h⟩:=ht;have:=ak8 t dir s (h.sz.up aM) h.jK hs trivial;rw[aeg h] at this;exact lS (cO this M)
def amm(t:Tree)(ht:Rt t)(dir:Int)(s:Bytes)(to:Int)(nm:Bytes)(hs:s.length<=100000)(hn:nm.length<=100000)(M:aO):aL (aq fc) 176 [.agg [aV t.aa,aH t.next,aH t.ae],aH dir,.str s,aH to,.str nm] M =
  some (.tuple [.agg [aV (wR t dir s to nm).1.aa,aH (wR t dir s to nm).1.next,aH (wR t dir s to nm).1.ae],aH (wR t dir s to nm).2.1,aH (wR t dir s to nm).2.2],M):=by
 obtain⟨cz,h⟩:=ht;have:=ala t dir s to nm (h.sz.up aM) h.jK hs trivial hn trivial (fun e he=>h.Md to nm e he)
 rw[adz h] at this;exact lS (cO this M)
def amP(t:Tree)(ht:Rt t)(ar:Int)(s:Bytes)(hs:s.length<=100000)(M:aO):aL (aq fc) 175 [.agg [aV t.aa,aH t.next,aH t.ae],aH ar,.str s] M =
  some (.tuple [aH (eB t.aa ar s).1,aH (eB t.aa ar s).2],M):=lS (Wj t.aa t.next t.ae ar s ht.small ht.jK hs trivial M)
def Rt.add{t:Tree}(h:Rt t)(dir:Int)(s:Bytes)(kind:Int):Rt (nL t dir s kind).1:=let ⟨_,g⟩:=h; Cx g dir s kind (fun h=>h)
def Rt.ln{t:Tree}(h:Rt t)(ar dir:Int)(s:Bytes):Rt (B4 t ar dir s).1:=let ⟨_,g⟩:=h; ⟨_,Mr g ar dir s (fun h=>h)⟩
def Rt.un{t:Tree}(h:Rt t)(dir:Int)(s:Bytes):Rt (wv t dir s).1:=let ⟨_,g⟩:=h; ⟨_,G5 g dir s⟩
def Rt.mv{t:Tree}(h:Rt t)(dir:Int)(s:Bytes)(to:Int)(nm:Bytes):Rt (wR t dir s to nm).1:=let ⟨_,g⟩:=h; Mw g dir s to nm (fun h=>h)
def vD(t:Tree)(s:Bytes)(hs:s.length<=100000):(mj t s).2.1.length<=1000:=by
 have:=tM s hs;unfold mj;split
 ·simp
 ·split
  ·simp
  ·simp only; omega
def amv{l Z:List eM}{v:Nat}(hl:l.length<=1000000)(hn:(l.map eM.ae).Nodup)(b0 b1 b2 b3:dg):aL (aq dp) 220 [.cY 4 v 3 0 l.length,.func 221 []] [b0,b1,b2,b3,.arr 3 v ((l++Z).map gq)]=some (.tuple [],[b0,b1,b2,b3,.arr 3 v ((nn l++Z).map gq)]) :=
 mS (ids:=[4]) rfl rfl (aiH _ _ ..) rfl rfl (La hl hn) rfl rfl rfl rfl rfl
def ZE(M:aO):aL (aq dp) 220 [ka [],.func 221 []] M=some (.tuple [],M):=by
 have h:aq dp 220 [ka [],.func 221 []] []=some (.tuple [],[]):=by
  refine gN (g:=wI 3 2 221) rfl ?_;unfold wI;simp only[aE]
 exact cO h M
def AB{t:Tree}{cz:Int->Nat}(h:cF t cz 0)(ar:Int):((gM t.aa ar).1.aK.map eM.ae).Nodup/\(gM t.aa ar).1.aK.length<=64:=by
 unfold gM;cases hi:find t.aa ar with
 |none=>exact⟨kY,by simp[Node.zero]⟩
 |some n =>
  simp only;split
  ·exact⟨by rw[List.nodup_iff_pairwise_ne,iL]; exact(h.wL _ _ hi).1,(h.wL _ _ hi).2⟩
  ·exact⟨kY,by simp[Node.zero]⟩
def ak4(t:Tree)(ht:Rt t)(ar z m:Int):aq dp 168 [bD t,aH ar,aH z,aH m] []=some (.tuple [iU (qM t ar z m).1,aH (qM t ar z m).2.1,aH (qM t ar z m).2.2],[]):=by
 obtain⟨cz,h⟩:=ht;refine aw ?_;have q1:=fun b c M=>Wk t.aa t.next t.ae ar h.jK.iW (by have:=h.aa; omega) 2 (b::c :: cL [aV t.aa,aH t.next,aH t.ae]::M) rfl
 obtain⟨hnd,h64⟩:=AB h ar;have hknd:((mX z (gM t.aa ar).1.aK).map eM.ae).Nodup:=(List.filter_sublist.map _).nodup hnd;have hkl:(mX z (gM t.aa ar).1.aK).length<=64:=bg (eN _ _) h64;unfold qM BE;generalize gM t.aa ar=d at q1 hnd h64 hknd hkl ⊢;simp only[bJ,aI] at q1;cases g1:decide (z<0)
 ·cases g2:decide (m<1)
  ·cases g3:decide (64<m)
   ·cases g4:d.2 != 0
    ·obtain⟨M,hM⟩:∃M:Nat,m=(M:Int):=⟨m.toNat,by simp at g2; omega⟩
     subst hM;have hM1:1<=M:=by simp at g2; omega
     have hM64:M<=64:=by simp at g3; omega
     generalize hE:d.1.aK=E at q1 hknd hkl h64 ⊢;have c0:∀b0 b2 b3,aL (aq dp) 217 [ka [],.func 219 [dC 1]] [b0,cL [aH z],b2,b3]=some (ka [],[b0,cL [aH z],b2,b3]):=fun b0 b2 b3=>ahT z b0 b2 b3
     have z0:((0:Int)<=(M:Int))=True:=dk
     by_cases hE0:E=[]
     ·have p1:∀M,aq dp 218 [iU E] M=some (.slice .c0 [],M):=fun M=>by subst hE0; exact aiD M
      have hk:nn (mX z E)=[]:=by subst hE0; rfl
      rw[hk];simp only[yo,Hc,bD,aY,q1,g1,g2,g3,g4,p1,c0,ZE,z0,aF,aI,dK,af,aE,aC,EW,seval];rfl
     ·have p1:=fun M=>p58 (l:=E) hE0 aM M
      by_cases hK0:mX z E=[]
      ·have p2:=fun b0 b2 b3=>ahU E z aM hE0 hK0 b0 b2 b3
       have hk:nn (mX z E)=[]:=by rw[hK0]; rfl
       rw[hk];simp only[yo,Hc,bD,aY,q1,g1,g2,g3,g4,p1,p2,ZE,z0,aF,aI,dK,af,aE,aC,EW,seval];rfl
      ·have p2:=fun b0 b2 b3=>amt E z aM hE0 hK0 b0 b2 b3
       have hsl:=zd (mX z E);generalize mX z E=kk at p2 hknd hkl hK0 hsl ⊢;generalize List.replicate (E.length-kk.length) Ai=Z at p2;have p3:=fun b0 b1 b2 b3=>amv (l:=kk) (Z:=Z) (v:=0) aM hknd b0 b1 b2 b3
       generalize nn kk=ss at p3 hsl ⊢;have tk:List.take kk.length ((ss++Z).map gq)=ss.map gq:=by rw[<-hsl]; simp[gI]
       cases g5:decide ((kk.length:Int)<=(M:Int))
       ·have cA:M<kk.length:=by simp at g5; omega
        have g6:decide ((ss.length:Int)<=(M:Int))=false:=by rw[hsl]; exact g5
        have hw1:IntKind.i64.wrap ((M:Int)-1)=((M-1:Nat):Int):=by rw[gb aM aM]; omega
        have hx:=ai (show M-1<ss.length by omega)
        have hg:ss.getD (M-1) Ai=ss[M-1]:=by simp[List.getD,hx]
        have hat:(ss++Z)[M-1]?=some ss[M-1]:=by rw[bh aM]; exact hx
        have tm:List.take M ((ss++Z).map gq)=(ss.take M).map gq:=by
         rw[<-jC,gI aM]
        have b1:((M:Int)<=(kk.length:Int))=True:=ic;have b2:((M:Int)==0)=false:=ic;have b3:((0:Int)==(M:Int))=false:=ic;have b4:(((M-1:Nat):Int)<(kk.length:Int))=True:=ic;simp only[yo,Hc,bD,aY,q1,g1,g2,g3,g4,g5,g6,p1,p2,p3,z0,hw1,hg,hat,tm,b1,b2,b3,b4,ir,cJ,cd,dJ,aI,dK,af,aE,aC,EW,seval];rw[<-jC]
       ·have g6:decide ((ss.length:Int)<=(M:Int))=true:=by rw[hsl]; exact g5
        simp only[yo,Hc,bD,aY,q1,g1,g2,g3,g4,g5,g6,p1,p2,p3,tk,cd,aI,dK,af,aE,aC,EW,seval]
    ·simp only[yo,Hc,bD,aY,q1,g1,g2,g3,g4,aI,dK,af,aE,aC,EW,seval];rfl
   ·simp only[yo,Hc,bD,aY,g1,g2,g3,aI,dz,dK,af,aE,aC,EW,seval];rfl
  ·simp only[yo,Hc,bD,aY,g1,g2,aI,dL,dz,dK,af,aE,aC,EW,seval];rfl
 ·simp only[yo,Hc,bD,aY,g1,aI,dL,dK,af,aE,aC,EW,seval];rfl
def ami(t:Tree)(ht:Rt t)(ar z m:Int)(M:aO):aL (aq fc) 168 [.agg [aV t.aa,aH t.next,aH t.ae],aH ar,aH z,aH m] M=some (.tuple [iU (qM t ar z m).1,aH (qM t ar z m).2.1,aH (qM t ar z m).2.2],M) :=
 lS (cO (ak4 t ht ar z m) M)
def AV{t:Tree}(ht:Rt t)(ar z m:Int):(qM t ar z m).1.length<=100000:=by
 obtain⟨cz,h⟩:=ht;have h64:=(AB h ar).2;have hf:(BE t.aa ar z).length<=64:=by unfold BE; rw[zd]; exact bg (eN _ _) h64
 unfold qM;split
 ·simp
 ·split
  ·simp
  ·split
   ·simp only; omega
   ·simp; omega
def c92(e:Int):aq fc 92 [aH e] []=some (if e != 0 then jj e else .tuple [],[]):=by
 refine aw ?_;simp only[ahn,E92,EW,seval];cases he:e != 0
 ·simp only[E92,af,aC,EW,seval]
 ·simp only[E92,aE,valOf,jj,EW,seval]
def zN(e:Int)(M:aO):aL (aq fc) 92 [aH e] M=some (if e != 0 then jj e else .tuple [],M) :=
 vT (c92 e) rfl rfl (by split<;>rfl) rfl (by split<;>rfl) M
def c47(b:Bool)(e:Int)(he:(e != 0)=true):aq fc 47 [.bool b,aH e] []=some (if b then .tuple [] else jj e,[]):=by
 refine aw ?_;have q:=zN e;rw[av he] at q;cases b<;>simp only[ag3,E47,q,jj,af,aE,aC,EW,seval]
def U0(b:Bool)(e:Int)(he:(e != 0)=true)(M:aO):aL (aq fc) 47 [.bool b,aH e] M=some (if b then .tuple [] else jj e,M) :=
 vT (c47 b e he) rfl rfl (by split<;>rfl) rfl (by split<;>rfl) M
def k71(a b:Tree)(ha:Small a)(M:aO):aL (aq dp) 71 [.agg [aV a.aa,aH a.next,aH a.ae],.agg [aV b.aa,aH b.next,aH b.ae]] M=some (.bool (decide (a=b)),M):=cO (c71 a b ha) M
def c78:aq dp 78 [] []=some (.agg (aY p8),[]):=by
 refine aw ?_;simp only[ahj,E78,EW,seval];rfl
def k78:=cP c78
end
def Nv(n:qm):(zF n).cells=fD n:=rfl
def Ts(n:qm):(fD n).length=8:=rfl
def tkO(n:qm):List.take 8 (fD n)=fD n:=rfl
def shO(n:qm):List.map ag.shut (fD n)=fD n:=rfl
def P4(s:qZ):(Kc s).cells=jH s:=rfl
def WO(s:qZ):(jH s).length=11:=rfl
def ano(s:qZ):List.take 11 (jH s)=jH s:=rfl
def ank(s:qZ):List.map ag.shut (jH s)=jH s:=rfl
def Hg:=cn @Nv (cn @Ts (cn @tkO (cn @shO (cn @P4 (cn @WO (cn @ano @ank))))))
def Dj(o:qm):Bool:=decide (5000<(o.data.length:Int))||(decide (1000<(o.aQ.length:Int))||decide (1000<(o.rj.length:Int)))
def WQ{o:qm}(h:Dj o=false):Ca o:=by
 simp only[Dj,iE,eP] at h;exact⟨aM,aM,aM⟩
def Ms(s:qZ):Bool:=Dj s.op||decide (1000<(s.aQ.length:Int))
def C7(l:List qZ):Bool:=if decide (40<(l.length:Int)) then true else l.any Ms
def Q0{l:List qZ}(h:C7 l=false):l.length<=40/\∀s,s∈l->Ca s.op/\s.aQ.length<=1000:=by
 unfold C7 at h;split at h
 ·cases h
 ·rename_i h0;simp only[bt] at h0;refine⟨aM,fun s hs=>?_⟩
  have:=List.any_eq_false.1 h s hs;simp only[Ms,cV,kB,Bool.not_eq_true,eP] at this;exact⟨WQ this.1,aM⟩
section
attribute [local irreducible] fP fm kM gK dH kr aq aL cH bP
def c13(o:qm):aq dp 13 [zF o] []=some (.bool (Dj o),[]):=by
 refine aw ?_;unfold Dj
 cases h1:decide (5000<(o.data.length:Int))<;>cases h2:decide (1000<(o.aQ.length:Int))<;>cases h3:decide (1000<(o.rj.length:Int)) <;>
  simp only[agJ,E13,zF,fD,h1,h2,h3,dz,dL,fE,dE,EW,seval]
def k13(o:qm)(M:aO):aL (aq dp) 13 [.agg (fD o)] M=some (.bool (Dj o),M):=cO (c13 o) M
def c12(xs:List qZ):aq dp 12 [zE xs] []=some (.bool (C7 xs),[]):=by
 refine aw ?_;unfold C7;cases h0:decide (40<(xs.length:Int))<;>simp only[agI,E12,h0,aE,af,aC,Hg,EW,seval]
 have hn:xs.length<=40:=by simp at h0; omega
 refine sY (xs:=xs) aM (fun l (_:Unit)=>l.any Ms) (fun _ i=>[(0,zE xs),(3,aH i)]) (fun _=>[]) (fun b=>some (ag.bool b,([]:aO))) (fun _=>?_) (fun pre x post _ h hx cA hw h0 hm hi=>?_) ()
 ·simp only[E12,aX,List.any_nil,Hg,EW,seval]
 ·have q:=fun M=>k13 x.op M
  simp only[fD,mc] at q;have i1:=hi ();simp only[pQ,Ms] at i1 ⊢;cases hl:Dj x.op<;>rw[hl] at q<;>cases hp:decide (1000<(x.aQ.length:Int))<;>simp only[E12,cA,hx,hw,q,hl,hp,jH,fD,bp,bw,dL,dE,dz,fE,Hg,EW,seval]
  exact i1
def k12 xs:=cP (c12 xs)
end
def lG'{f:Nat}{a:List ag}{M:aO}{x:ag×aO}(h:aq dp f a M=some x):aq ko f a M=some x:=lF' (lS' h)
def lG{f:Nat}{vs:List ag}{M:aO}{x:ag×aO}(h:aL (aq dp) f vs M=some x):aL (aq ko) f vs M=some x:=lF (lS h)
section
open Go.ChangeShapes Go.WideShapes Go.ChangeAt Go.RowKit Go.Deep
def laidOut:laidOutB Tryz.prog=true:=gd
section
variable {H:Type} {enc:TypeId×Value->H}
def yv{W W':World}(hb:Below W.heap.size W W'):∀ {ts:List TypeId} {vs:List Value} {ds:List (DataW H)} {p:List MemPlace},DataW.TrodAll enc Tryz.prog W 0 (fun _=>true) true ts vs ds p ->
  (∀t,t∈ts->Tryz.prog.readableRec t=true/\t<Tryz.prog.types.size)->(∀x∈p,x.block<W.heap.size)->DataW.TrodAll enc Tryz.prog W' 0 (fun b=>decide (b<W.heap.size)) true ts vs ds p
 | [],vs,ds,p,h,_,_=>by
  obtain⟨rfl,rfl,rfl⟩:=trodAll_nil h;exact trodAll_mk0
 |t::ts,vs,ds,p,h,ht,hp=>by
  obtain⟨v,vs',d,ds',p1,q,rfl,rfl,rfl,h1,h2⟩:=trodAll_cons h
  exact trodAll_cons_mk (Below.trod laidOut (ht t aG).1 (ht t aG).2 h1 hb (fun x hx=>hp x (fG _ hx)))
   (yv hb h2 (fun t ht'=>ht t (aP _ ht')) (fun x hx=>hp x (iu _ hx)))
abbrev D4(w:World):Nat->Nat->Prop:=ow UZ [] w
def UB{w:World}{b off:Nat}(h:b<w.heap.size):D4 w b off:=⟨h,fun id hid=>absurd hid (kx _),fun hx=>hx⟩
def lz(b off i:Nat):(⟨b,off,none⟩:Addr).add i=⟨b,off+i,none⟩:=by
 unfold Addr.add;split
 ·rename_i h; rw[h]; rfl
 ·rfl
def mV{w:World}{fuel t:Nat}{v:Value}{x:DataW H×List MemPlace}(ht:Tryz.prog.underlying t=some (.int .i64))(h:DataW.trod enc Tryz.prog w 0 (fun _=>true) true fuel t [v]=some x):∃n:Int,fK w (D4 w) (.int .i64 n) v:=by
 obtain⟨n,q,_,_⟩:=DataW.trod_int ht h;cases q;exact⟨n,.int _ _⟩
def UQ{w:World}{fuel t:Nat}{v:Value}{x:DataW H×List MemPlace}(ht:Tryz.prog.underlying t=some (.int .u8))(h:DataW.trod enc Tryz.prog w 0 (fun _=>true) true fuel t [v]=some x):∃b:UInt8,fK w (D4 w) (Aj b) v:=by
 obtain⟨n,q,_,wf⟩:=DataW.trod_int ht h;cases q;have h3:IntKind.u8.min<=n/\n<=IntKind.u8.max:=by simpa[Lit.wf] using wf
 have e1:IntKind.u8.min=0:=pd;have e2:IntKind.u8.max=255:=pd;have e:n=((UInt8.ofNat n.toNat).toNat:Int):=by rw[UInt8.toNat_ofNat']; omega
 refine⟨UInt8.ofNat n.toNat,?_⟩;unfold Aj;rw[<-e];exact .int _ _
def Aa{w:World}{fuel t:Nat}{v:Value}{x:DataW H×List MemPlace}(ht:Tryz.prog.underlying t=some .string)(h:DataW.trod enc Tryz.prog w 0 (fun _=>true) true fuel t [v]=some x):∃s:Bytes,fK w (D4 w) (.str s) v:=by
 obtain⟨s,q,_,_⟩:=DataW.trod_string ht h;cases q;refine⟨s.data.toList,?_⟩;have:Go.Abs.bs s.data.toList=s:=by apply ByteArray.ext; simp[Go.Abs.bs]
 have h:=fK.str (w:=w) (im:=D4 w) s.data.toList;rw[this] at h;exact h
def Bz{α:Type}(P:Nat->α->Prop):∀(n:Nat),(∀i,i<n->∃a,P i a)->∃l:List α,l.length=n/\∀i a,l[i]?=some a->P i a
 |0,_=>⟨[],rfl,fun i a h=>by cases i<;>cases h⟩
 |n+1,h=>by
  obtain⟨l,hl,hp⟩:=Bz P n (fun i hi=>h i aM)
  obtain⟨a,ha⟩:=h n aM;refine⟨l++[a],by simp[hl],fun i b hb=>?_⟩
  rcases bK i n with hi|hi
  ·rw[bh aM] at hb;exact hp i b hb
  ·rw[bA aM] at hb
   have:i=n:=by
    have:=(au.1 hb).1;simp at this; omega
   subst this;simp[hl] at hb;subst hb; exact ha
def kh(w:World)(l:List ag)(cs:List Value):Prop:=l.length=cs.length/\∀(k:Nat)(c:ag)(v:Value),l[k]?=some c->cs[k]?=some v->fK w (D4 w) c v
def kh.one{w:World}{c:ag}{v:Value}(h:fK w (D4 w) c v):kh w [c] [v]:=⟨rfl,fun k c' v' h1 h2=>by
 match k with
 |0=>cases h1; cases h2; exact h
 |k+1=>cases h1⟩
def kh.app{w:World}{a b:List ag}{cs ds:List Value}(h:kh w a cs)(g:kh w b ds):kh w (a++b) (cs++ds):=⟨by simp[h.1,g.1],fun k c v h1 h2=>by
 rcases bK k a.length with hk|hk
 ·rw[bh hk] at h1;rw[bh (by rw[<-h.1]; exact hk)] at h2
  exact h.2 k c v h1 h2
 ·rw[bA hk] at h1;rw[bA (by rw[<-h.1]; exact hk),<-h.1] at h2
  exact g.2 _ c v h1 h2⟩
def kh.nil{w:World}:kh w [] []:=⟨rfl,fun k c v h1 _=>by cases h1⟩
def aia:DataW H->Nat
 | .slice es _=>es.length
 |_=>0
def vB{α:Type}{w:World}{fuel t e m:Nat}{v:Value}{x:DataW H×List MemPlace}{eC:α->List ag}{mk:α->ag}(ht:Tryz.prog.underlying t=some (.slice e))(hm:Tryz.prog.cellsOf e=m)(hm0:0<m)
  (hmk:∀a,(mk a).cells=eC a) (fx:∀a,(eC a).length=m)
  (he:∀(n:Nat)(cs:List Value)(y:DataW H×List MemPlace),cs.length=m->DataW.trod enc Tryz.prog w 0 (fun _=>true) true n e cs=some y->∃a,kh w (eC a) cs)
  (h:DataW.trod enc Tryz.prog w 0 (fun _=>true) true fuel t [v]=some x) :
  ∃l:List α,fK w (D4 w) (.slice .sh (l.map mk)) v/\l.length=aia x.1:=by
 rcases open_slice ht h with ⟨hcs,hxx⟩|⟨a,len,cap,mm,n,D,Pl,hcs,_,hl,_,hmm,hxx,hi⟩
 ·cases hcs;exact⟨[],fK.nil _ _ _,by rw[hxx]; rfl⟩
 ·cases hcs;simp only[aE] at hmm;obtain⟨b,off,spot⟩:=a;rw[hm] at hi
  have each:∀i,i<len->∃s:α,∃cs',w.cells? 0 ((⟨b,off,spot⟩:Addr).add (i*m)) m=some cs'/\cs'.length=m/\kh w (eC s) cs':=by
   intro i hi';obtain⟨cs',hcl,ht⟩:=hi i aM;have hln:cs'.length=m:=(World.cells?_some hcl).2.1;obtain⟨s,hr⟩:=he _ _ _ hln ht;exact⟨s,cs',hcl,hln,hr⟩
  obtain⟨l,hll,hlp⟩:=Bz _ len each;refine⟨l,?_,by rw[hxx]; simp[aia,hll]⟩
  have hsp:len≠0->spot=none:=fun h0=>by
   obtain⟨s,cs',hcl,h6,_⟩:=each 0 aM;obtain⟨_,_,hat⟩:=World.cells?_some hcl;have:=hat 0 hm0;have h3:cs'[0]?=some (cs'[0]'(by omega)):=ai aM
   rw[h3] at this;simpa[Addr.add] using World.cell?_spot this
  have cell:∀(i:Nat)(s:α)(k:Nat)(c:ag),l[i]?=some s->(eC s)[k]?=some c->∃u,w.cell? ⟨b,off+(i*m+k),none⟩=some u/\fK w (D4 w) c u:=fun i s k c hs hk=>by
   obtain⟨cs',hcl,h6,hr⟩:=hlp i s hs;have hil:i<len:=by have:=(au.1 hs).1; omega
   obtain rfl:=hsp aM;obtain⟨_,_,hat⟩:=World.cells?_some hcl;have hk6:k<m:=by have:=(au.1 hk).1; rw[fx] at this; exact this
   have h1:=hat k hk6;have h3:cs'[k]?=some (cs'[k]'(by omega)):=ai aM
   rw[lz,lz,h3] at h1;exact⟨_,by rw[<-Nat.add_assoc]; exact h1,hr.2 k c _ hk h3⟩
  refine .slice _ _ _ _ b off m (fun q=>(w.cell? ⟨b,off+q,none⟩).getD undef) (by simp[hll]) hl (fun hne=>?_) ?_ ?_ ?_
  ·obtain rfl:=hsp (fun h0=>hne (by rw[h0] at hll; rw[cf.1 hll]; rfl))
   rfl
  ·intro x hx;obtain⟨s,_,rfl⟩:=cm.1 hx;rw[hmk,fx]
  ·intro i x k c hx hk;rw[bb] at hx;obtain⟨s,hs,rfl⟩:=aW.1 hx;rw[hmk] at hk;obtain⟨u,h1,_⟩:=cell i s k c hs hk;refine⟨by rw[h1]; rfl,UB (LO h1)⟩
  ·intro i x k c hx hk;rw[bb] at hx;obtain⟨s,hs,rfl⟩:=aW.1 hx;rw[hmk] at hk;obtain⟨u,h1,h2⟩:=cell i s k c hs hk
   show fK w _ c ((w.cell? _).getD undef)
   rw[h1];exact h2
def Er{w:World}{fuel t e:Nat}{v:Value}{x:DataW H×List MemPlace}(ht:Tryz.prog.underlying t=some (.slice e))(he:Tryz.prog.underlying e=some (.int .u8))(hc:Tryz.prog.cellsOf e=1)(h:DataW.trod enc Tryz.prog w 0 (fun _=>true) true fuel t [v]=some x) :
  ∃d:Bytes,fK w (D4 w) (.slice .sh (d.map Aj)) v:=by
 obtain⟨l,h,_⟩:=vB (eC:=fun b=>[Aj b]) (mk:=Aj) ht hc aM (fun _=>rfl) (fun _=>rfl) (fun n cs y hl hy=>by
  match cs,hl with
  | [c],_ =>
   obtain⟨b,hb⟩:=UQ he hy;exact⟨b,.one hb⟩) h
 exact⟨l,h⟩
set_option maxRecDepth 100000 in
def Pf{w:World}{t:Nat}{fs:Array Field}{r:Reach}{b:Nat}{v:Value}{d:DataW H}{ps:List MemPlace}{P:List Value->Prop}(ht:Tryz.prog.underlying t=some (.struct fs))(h:DataW.Trod enc Tryz.prog w 0 (fun _=>true) true t v d ps)(hv:Value.okWide Tryz.prog w r b t v)
  (K:∀(n:Nat)(cs:List Value)(y:DataW H×List MemPlace),DataW.trod enc Tryz.prog w 0 (fun _=>true) true n t cs=some y->P cs):∃cs:Array Value,v = .agg cs/\P cs.toList:=by
 obtain⟨cs,rfl,_⟩:=okWide_struct ht hv;obtain⟨fuel,hf⟩:=h;have hcs:(Value.agg cs).cells.toList=cs.toList:=rfl;rw[hcs] at hf;exact⟨cs,rfl,K _ _ _ hf⟩
def Vp{w:World}{l:List ag}{cs:Array Value}(h:kh w l cs.toList):gn UZ [] w (.agg l) (.agg cs) :=
 .agg (by rw[h.1]; simp) (fun i c v hc hv => .plain (h.2 i c v hc (by simpa using hv)))
def Lo{T:Br}(hT:pC Tryz.prog (aq T)){f:Nat}{args:List ag}(h:aq T f args []=some (.bool true,[]))(w:World)(hG:sS UZ [] w)(vs:Array Value)(hl:args.length=vs.size)(hv:∀(i:Nat)(c:ag)(v:Value),args[i]?=some c->vs[i]?=some v->gn UZ [] w c v) :
  Calls Tryz.prog f vs w fun e w'=>e = .returned (.bool true)/\Below w.heap.size w w':=by
 refine((hT f args [] _ h).2 UZ w vs (anf w) hG hl hv).mono ?_;intro e w' hce;obtain⟨v,rfl,j',_,hx,hr⟩:=hce.ret rfl;obtain rfl:=hr.js;exact⟨rfl,hx.os,hx.tape,hx.output,hx.size,fun k hk=>(hx.uL k hk fun i hi=>absurd hi (kx _)).1⟩
def zq{w:World}{n t k:Nat}{cs:List Value}{v:Value}{y:DataW H×List MemPlace}(hc:Tryz.prog.cellsOf t=1)(hk:cs[k]?=some v)(h:DataW.trod enc Tryz.prog w 0 (fun _=>true) true n t ((cs.drop k).take (Tryz.prog.cellsOf t))=some y):DataW.trod enc Tryz.prog w 0 (fun _=>true) true n t [v]=some y:=by
 rw[hc] at h
 have:(cs.drop k).take 1=[v]:=by
  have:=(au.1 hk);obtain⟨h1,h2⟩:=this;rw[cN h1,h2]; rfl
 rw[this] at h;exact h
def sO:Tryz.prog.underlying 3=some (.int .i64):=gd
def Ji:Tryz.prog.underlying 9=some .string:=gd
def X0:Tryz.prog.underlying 5=some (.int .u8):=gd
def MY:Tryz.prog.underlying 23=some (.slice 5):=gd
def sx:Tryz.prog.cellsOf 3=1:=gd
def HC:Tryz.prog.cellsOf 9=1:=gd
def aaP:Tryz.prog.cellsOf 5=1:=gd
def LK:Tryz.prog.cellsOf 23=1:=gd
def amT:Tryz.prog.cellsOf 25=8:=gd
set_option maxRecDepth 100000 in
def adP{w:World}{fuel:Nat}{cs:List Value}{x:DataW H×List MemPlace}(h:DataW.trod enc Tryz.prog w 0 (fun _=>true) true fuel 25 cs=some x):∃o:qm,kh w (fD o) cs:=by
 obtain⟨xs,n,_,_,hl,hxl,hf⟩:=DataW.trod_struct underlying25 h;have h0:cs.length=8:=by rw[hl]; kernel_rfl
 match cs,h0 with
 | [v0,v1,v2,v3,v4,v5,v6,v7],_ =>
  match xs,hxl with
  | [y0,y1,y2,y3,y4,y5,y6,y7],_ =>
   obtain⟨a0,r0⟩:=mV sO (zq (k:=0) sx rfl (hf 0 _ rfl));obtain⟨a1,r1⟩:=mV sO (zq (k:=1) sx rfl (hf 1 _ rfl));obtain⟨a2,r2⟩:=Aa Ji (zq (k:=2) HC rfl (hf 2 _ rfl));obtain⟨a3,r3⟩:=Aa Ji (zq (k:=3) HC rfl (hf 3 _ rfl));obtain⟨a4,r4⟩:=mV sO (zq (k:=4) sx rfl (hf 4 _ rfl));obtain⟨a5,r5⟩:=mV sO (zq (k:=5) sx rfl (hf 5 _ rfl));obtain⟨a6,r6⟩:=mV sO (zq (k:=6) sx rfl (hf 6 _ rfl));obtain⟨a7,r7⟩:=Er MY X0 aaP (zq (k:=7) LK rfl (hf 7 _ rfl));exact⟨⟨a0,a1,a2,a3,a4,a5,a6,a7⟩,.app (.one r0) (.app (.one r1) (.app (.one r2) (.app (.one r3) (.app (.one r4) (.app (.one r5) (.app (.one r6) (.one r7)))))))⟩
set_option maxRecDepth 100000 in
def aec{w:World}{r:Reach}{b:Nat}{v:Value}{d:DataW H}{ps:List MemPlace}(h:DataW.Trod enc Tryz.prog w 0 (fun _=>true) true 5 v d ps)(hv:Value.okWide Tryz.prog w r b 5 v):∃x:UInt8,gn UZ [] w (Aj x) v:=by
 obtain⟨n,rfl,_,_,hw⟩:=open_int X0 hv h;have h3:IntKind.u8.min<=n/\n<=IntKind.u8.max:=by simpa[Lit.wf] using hw
 have e1:IntKind.u8.min=0:=pd;have e2:IntKind.u8.max=255:=pd;have e:n=((UInt8.ofNat n.toNat).toNat:Int):=by rw[UInt8.toNat_ofNat']; omega
 refine⟨UInt8.ofNat n.toNat,.plain ?_⟩;unfold Aj;rw[<-e];exact .int _ _
end
def aeb{α:Type}{a:Array α}{l:List α}(h:a.toList=l):a=l.toArray:=by rw[<-h]
section
variable {H:Type} {enc:TypeId×Value->H}
def adB:Tryz.prog.cellsOf 74=11:=gd
def MZ:Tryz.prog.underlying 22=some (.slice 74):=gd
set_option maxRecDepth 100000 in
def UM{w:World}{fuel:Nat}{cs:List Value}{x:DataW H×List MemPlace}(h:DataW.trod enc Tryz.prog w 0 (fun _=>true) true fuel 74 cs=some x):∃s:qZ,kh w (jH s) cs:=by
 obtain⟨xs,n,_,_,hl,hxl,hf⟩:=DataW.trod_struct underlying74 h;have h0:cs.length=11:=by rw[hl]; kernel_rfl
 match cs,h0 with
 | [v0,v1,v2,v3,v4,v5,v6,v7,v8,v9,v10],_ =>
  match xs,hxl with
  | [y0,y1,y2,y3],_ =>
   obtain⟨a0,r0⟩:=UQ X0 (zq (k:=0) aaP rfl (hf 0 _ rfl));have h1:=hf 1 _ rfl;change DataW.trod enc Tryz.prog w 0 (fun _=>true) true n 25 (List.take (Tryz.prog.cellsOf 25) _)=_ at h1
   rw[amT] at h1;obtain⟨a1,r1⟩:=adP h1;obtain⟨a2,r2⟩:=Aa Ji (zq (k:=9) HC rfl (hf 2 _ rfl));obtain⟨a3,r3⟩:=mV sO (zq (k:=10) sx rfl (hf 3 _ rfl));exact⟨⟨a0,a1,a2,a3⟩,.app (.one r0) (.app r1 (.app (.one r2) (.one r3)))⟩
set_option maxRecDepth 100000 in
def O7{w:World}{r:Reach}{b:Nat}{v:Value}{d:DataW H}{ps:List MemPlace}(h:DataW.Trod enc Tryz.prog w 0 (fun _=>true) true 22 v d ps)(hv:Value.okWide Tryz.prog w r b 22 v):∃l:List qZ,gn UZ [] w (zE l) v:=by
 obtain⟨a,len,cap,rfl⟩:=okWide_slice MZ hv;obtain⟨fuel,hf⟩:=h;obtain⟨l,h2,_⟩:=vB (eC:=jH) (mk:=Kc) MZ adB aM (fun _=>rfl) (fun _=>rfl) (fun n cs y _ hy=>UM hy) hf
 exact⟨l,.plain h2⟩
end
section
variable {H:Type} {enc:TypeId×Value->H}
def aic:Tryz.prog.cellsOf 129=3:=gd
def adA:Tryz.prog.cellsOf 60=6:=gd
def aid:Tryz.prog.cellsOf 53=2:=gd
def Xk:Tryz.prog.cellsOf 65=3:=gd
def aed:Tryz.prog.underlying 58=some (.slice 129):=gd
def XZ:Tryz.prog.underlying 40=some (.slice 60):=gd
def aee:Tryz.prog.underlying 30=some (.slice 53):=gd
def UR:Tryz.prog.underlying 29=some (.slice 65):=gd
def aaN:Tryz.prog.cellsOf 58=1:=gd
def VA:Tryz.prog.cellsOf 40=1:=gd
def aaO:Tryz.prog.cellsOf 30=1:=gd
def P1:Tryz.prog.cellsOf 29=1:=gd
set_option maxRecDepth 100000 in
def VO{w:World}{fuel:Nat}{cs:List Value}{x:DataW H×List MemPlace}(h:DataW.trod enc Tryz.prog w 0 (fun _=>true) true fuel 129 cs=some x):∃o:eM,kh w (dJ o) cs:=by
 obtain⟨xs,n,_,_,hl,hxl,hf⟩:=DataW.trod_struct underlying129 h;have h0:cs.length=3:=by rw[hl]; kernel_rfl
 match cs,h0 with
 | [v0,v1,v2],_ =>
  match xs,hxl with
  | [y0,y1,y2],_ =>
   obtain⟨a0,r0⟩:=Aa Ji (zq (k:=0) HC rfl (hf 0 _ rfl));obtain⟨a1,r1⟩:=mV sO (zq (k:=1) sx rfl (hf 1 _ rfl));obtain⟨a2,r2⟩:=mV sO (zq (k:=2) sx rfl (hf 2 _ rfl));exact⟨⟨a0,a1,a2⟩,.app (.one r0) (.app (.one r1) (.one r2))⟩
set_option maxRecDepth 100000 in
def TV{w:World}{fuel:Nat}{cs:List Value}{x:DataW H×List MemPlace}(h:DataW.trod enc Tryz.prog w 0 (fun _=>true) true fuel 60 cs=some x):∃o:Node,kh w (aI o) cs:=by
 obtain⟨xs,n,_,_,hl,hxl,hf⟩:=DataW.trod_struct underlying60 h;have h0:cs.length=6:=by rw[hl]; kernel_rfl
 match cs,h0 with
 | [v0,v1,v2,v3,v4,v5],_ =>
  match xs,hxl with
  | [y0,y1,y2,y3,y4,y5],_ =>
   obtain⟨a0,r0⟩:=mV sO (zq (k:=0) sx rfl (hf 0 _ rfl));obtain⟨a1,r1⟩:=mV sO (zq (k:=1) sx rfl (hf 1 _ rfl));obtain⟨a2,r2⟩:=mV sO (zq (k:=2) sx rfl (hf 2 _ rfl));obtain⟨a3,r3⟩:=Er MY X0 aaP (zq (k:=3) LK rfl (hf 3 _ rfl));obtain⟨a4,r4,_⟩:=vB (eC:=dJ) (mk:=gq) aed aic aM (fun _=>rfl) (fun _=>rfl) (fun n cs y _ hy=>VO hy) (zq (k:=4) aaN rfl (hf 4 _ rfl))
   obtain⟨a5,r5⟩:=mV sO (zq (k:=5) sx rfl (hf 5 _ rfl));exact⟨⟨a0,a1,a2,a3,a4,a5⟩,.app (.one r0) (.app (.one r1) (.app (.one r2) (.app (.one r3) (.app (.one r4) (.one r5)))))⟩
set_option maxRecDepth 100000 in
def Xg{w:World}{fuel:Nat}{cs:List Value}{x:DataW H×List MemPlace}(h:DataW.trod enc Tryz.prog w 0 (fun _=>true) true fuel 53 cs=some x):∃o:nz,kh w (nS o) cs:=by
 obtain⟨xs,n,_,_,hl,hxl,hf⟩:=DataW.trod_struct underlying53 h;have h0:cs.length=2:=by rw[hl]; kernel_rfl
 match cs,h0 with
 | [v0,v1],_ =>
  match xs,hxl with
  | [y0,y1],_ =>
   obtain⟨a0,r0⟩:=mV sO (zq (k:=0) sx rfl (hf 0 _ rfl));obtain⟨a1,r1,_⟩:=vB (eC:=aI) (mk:=bJ) XZ adA aM (fun _=>rfl) (fun _=>rfl) (fun n cs y _ hy=>TV hy) (zq (k:=1) VA rfl (hf 1 _ rfl))
   exact⟨⟨a0,a1⟩,.app (.one r0) (.one r1)⟩
set_option maxRecDepth 100000 in
def OS{w:World}{fuel:Nat}{cs:List Value}{x:DataW H×List MemPlace}(h:DataW.trod enc Tryz.prog w 0 (fun _=>true) true fuel 65 cs=some x):∃o:Piece,kh w (cI o) cs:=by
 obtain⟨xs,n,_,_,hl,hxl,hf⟩:=DataW.trod_struct underlying65 h;have h0:cs.length=3:=by rw[hl]; kernel_rfl
 match cs,h0 with
 | [v0,v1,v2],_ =>
  match xs,hxl with
  | [y0,y1,y2],_ =>
   obtain⟨a0,r0⟩:=Aa Ji (zq (k:=0) HC rfl (hf 0 _ rfl));obtain⟨a1,r1⟩:=mV sO (zq (k:=1) sx rfl (hf 1 _ rfl));obtain⟨a2,r2⟩:=mV sO (zq (k:=2) sx rfl (hf 2 _ rfl));exact⟨⟨a0,a1,a2⟩,.app (.one r0) (.app (.one r1) (.one r2))⟩
set_option maxRecDepth 100000 in
def VZ{w:World}{fuel:Nat}{cs:List Value}{x:DataW H×List MemPlace}(h:DataW.trod enc Tryz.prog w 0 (fun _=>true) true fuel 32 cs=some x):∃o:rR,kh w (bL o) cs:=by
 obtain⟨xs,n,_,_,hl,hxl,hf⟩:=DataW.trod_struct underlying32 h;have h0:cs.length=4:=by rw[hl]; kernel_rfl
 match cs,h0 with
 | [v0,v1,v2,v3],_ =>
  match xs,hxl with
  | [y0,y1,y2,y3],_ =>
   obtain⟨a0,r0,_⟩:=vB (eC:=cI) (mk:=dy) UR Xk aM (fun _=>rfl) (fun _=>rfl) (fun n cs y _ hy=>OS hy) (zq (k:=0) P1 rfl (hf 0 _ rfl))
   obtain⟨a1,r1,_⟩:=vB (eC:=nS) (mk:=D5) aee aid aM (fun _=>rfl) (fun _=>rfl) (fun n cs y _ hy=>Xg hy) (zq (k:=1) aaO rfl (hf 1 _ rfl))
   obtain⟨a2,r2⟩:=mV sO (zq (k:=2) sx rfl (hf 2 _ rfl));obtain⟨a3,r3⟩:=mV sO (zq (k:=3) sx rfl (hf 3 _ rfl));exact⟨⟨a0,a1,a2,a3⟩,.app (.one r0) (.app (.one r1) (.app (.one r2) (.one r3)))⟩
set_option maxRecDepth 100000 in
def V0{w:World}{r:Reach}{b:Nat}{v:Value}{d:DataW H}{ps:List MemPlace}(h:DataW.Trod enc Tryz.prog w 0 (fun _=>true) true 32 v d ps)(hv:Value.okWide Tryz.prog w r b 32 v):∃s:rR,gn UZ [] w (.agg (bL s)) v:=by
 obtain⟨cs,rfl,o,hr⟩:=Pf underlying32 h hv (fun n cs y hy=>VZ hy)
 exact⟨o,Vp hr⟩
end
end
section
variable {l:List Piece}
def Gj(own:Nat)(e:Int):Nat->List Piece->List Piece
 |_,[]=>[]
 |i,x::r=>(if i=own then { x with dR:=e } else x)::Gj own e (i+1) r
def LF(own:Nat)(e:Int):∀(r:List Piece)(i:Nat),own<i->Gj own e i r=r
 | [],_,_=>rfl
 |x::r,i,h=>by rw[Gj,aj aM,LF own e r (i+1) aM]
def LG(e:Int):∀(r:List Piece)(i k:Nat),Gj (i+k) e i r=r.set k { nB r k with dR:=e }
 | [],_,_=>rfl
 |x::r,i,0=>by rw[Gj,av aM,LF _ e r (i+1) aM]; rfl
 |x::r,i,k+1=>by
  have:=LG e r (i+1) k;rw[Gj,aj aM,show i+(k+1)=i+1+k by omega,this]; rfl
def PW(l:List Piece)(own:Nat)(e:Int):Gj own e 0 l=nu l own e:=by
 have:=LG e l 0 own;rw[aN] at this; exact this
def nH(p:Piece)(own:Nat)(s:Nat×List Piece×Bool)(x:Piece):Nat×List Piece×Bool :=
 (s.1+1,(if !s.2.2&&strLt p.aQ x.aQ then s.2.1++[p] else s.2.1)++[if s.1=own then { x with dR:=nc (x.dR+1) } else x],s.2.2||strLt p.aQ x.aQ)
def Qc(p:Piece)(own:Nat)(l:List Piece):List Piece :=
 if (l.foldl (nH p own) (0,[],false)).2.2=true then (l.foldl (nH p own) (0,[],false)).2.1 else (l.foldl (nH p own) (0,[],false)).2.1++[p]
def HK(p:Piece)(own:Nat)(e:Int):∀(r:List Piece)(i:Nat)(out:List Piece),(∀x,i<=own->r[own-i]?=some x->nc (x.dR+1)=e) ->
  r.foldl (nH p own) (i,out,true)=(i+r.length,out++Gj own e i r,true)
 | [],i,out,_=>by simp[Gj]
 |x::r,i,out,he=>by
  have hx:i=own->nc (x.dR+1)=e:=fun h=>he x aM (by subst h; simp)
  rw[bB,nH];simp only[cG,cp,af,aC,dL];rw[HK p own e r (i+1) _ (fun y hy hr=>he y aM (by rw[show own-i=own-(i+1)+1 by omega]; simpa using hr)),Gj]
  refine ig ic (ig ?_ rfl);simp only[dW,bp,bw];congr 2;split
  ·rename_i h; rw[hx h]
  ·rfl
def Qe(p:Piece)(own:Nat)(e:Int):∀(r:List Piece)(i:Nat)(out:List Piece),r.Pairwise (fun a b=>strLt a.aQ b.aQ=true)->(∀q,q∈r->q.aQ≠p.aQ)->(∀x,i<=own->r[own-i]?=some x->nc (x.dR+1)=e) ->
  (if (r.foldl (nH p own) (i,out,false)).2.2=true then (r.foldl (nH p own) (i,out,false)).2.1 else (r.foldl (nH p own) (i,out,false)).2.1++[p])=out++yj (Gj own e i r) p
 | [],i,out,_,_,_=>by simp[Gj,yj]
 |x::r,i,out,ha,hn,he=>by
  have hx:i=own->nc (x.dR+1)=e:=fun h=>he x aM (by subst h; simp)
  have he':∀y,i+1<=own->r[own-(i+1)]?=some y->nc (y.dR+1)=e:=fun y hy hr=>he y aM (by rw[show own-i=own-(i+1)+1 by omega]; simpa using hr)
  obtain⟨ha1,ha2⟩:=bR.1 ha
  have hh:(if i=own then ({ x with dR:=nc (x.dR+1) }:Piece) else x)=(if i=own then { x with dR:=e } else x):=by
   split
   ·rename_i h; rw[hx h]
   ·rfl
  have hp:(if i=own then ({ x with dR:=e }:Piece) else x).aQ=x.aQ:=by split<;>rfl
  rw[bB,nH];simp only[dG,b9,dE]
  by_cases hc:strLt p.aQ x.aQ=true
  ·have hc2:strLt x.aQ p.aQ=false:=pN hc;rw[hc,av rfl,HK p own e r (i+1) _ he',hh];simp only[aE];rw[Gj,yj,fu,lH,hp,hc2];simp
  ·have hc1:strLt p.aQ x.aQ=false:=by simpa using hc
   have hc2:strLt x.aQ p.aQ=true:=by
    rcases oA p.aQ x.aQ with g|g|g
    ·rw[hc1] at g; cases g
    ·exact absurd g.symm (hn x aG)
    ·exact g
   simp only[hc1,af,aC];rw[Qe p own e r (i+1) _ ha2 (fun q hq=>hn q (aP _ hq)) he',hh,Gj]
   conv=>rhs; rw[yj,fu,lH,hp,hc2]
   simp[yj]
def NG(h:kc l){p:Piece}{own:Nat}(hn:∀q,q∈l->q.aQ≠p.aQ)(he:(nB l own).dR<1099511627776)(ho:own<l.length):Qc p own l=yj (nu l own ((nB l own).dR+1)) p:=by
 have hok:=(h.ok _ (qQ ho)).2
 have:=Qe p own ((nB l own).dR+1) l 0 [] h.iW hn (fun x _ hx=>by
  have:x=nB l own:=by rw[cd] at hx; simp[nB,hx]
  rw[this];exact gb aM aM)
 rw[bw,PW] at this;exact this
def qK(par at':Nat)(e:Int)(s:Nat×List Piece)(x:Piece):Nat×List Piece:=(s.1+1,if s.1 != at' then s.2++[if s.1=par then { x with dR:=e } else x] else s.2)
def GC(par at':Nat)(e:Int):∀(r:List Piece)(i:Nat)(out:List Piece),(r.foldl (qK par at' e) (i,out)).2=out++(if at'<i then Gj par e i r else (Gj par e i r).eraseIdx (at'-i))
 | [],i,out=>by simp[Gj]
 |x::r,i,out=>by
  rw[bB,qK]
  by_cases h:i=at'
  ·rw[aj (by simp[h]),GC par at' e r (i+1),av aM,aj aM,Gj,show at'-i=0 by omega]; rfl
  ·rw[av (by simpa using h),GC par at' e r (i+1),Gj]
   by_cases h2:at'<i
   ·rw[av (show at'<i+1 by omega),av h2]; simp
   ·rw[aj (show ¬at'<i+1 by omega),aj h2,show at'-i=at'-(i+1)+1 by omega]; simp
def KB(l:List Piece)(par at':Nat)(e:Int):(l.foldl (qK par at' e) (0,[])).2=(nu l par e).eraseIdx at':=by
 rw[GC par at' e l 0 [],aj aM,PW]; rfl
end
def rF(z:Int)(es:List eM):Int:=(es.foldl (fun(s:Nat×Int) e=>(s.1+1,if !decide (e.ae<z)&&(decide (s.2<0)||decide (e.ae<(es.getD s.2.toNat Ai).ae)) then (s.1:Int) else s.2)) (0,-1)).2
structure JE(z:Int)(es:List eM)(n:Nat)(b:Int):Prop where
 none:b<0->b = -1/\∀i e,i<n->es[i]?=some e->e.ae<z
 some:0<=b->∃e,es[b.toNat]?=some e/\b.toNat<n/\z<=e.ae/\∀i x,i<n->es[i]?=some x->z<=x.ae->e.ae<=x.ae
def Im(z:Int)(es:List eM):∀(r pre:List eM)(b:Int),es=pre++r->JE z es pre.length b ->
  JE z es es.length (r.foldl (fun(s:Nat×Int) e=>(s.1+1,if !decide (e.ae<z)&&(decide (s.2<0)||decide (e.ae<(es.getD s.2.toNat Ai).ae)) then (s.1:Int) else s.2)) (pre.length,b)).2
 | [],pre,b,h,hb=>by
  rw[cu] at h;subst h; exact hb
 |x::r,pre,b,h,hb=>by
  rw[bB];have hx:es[pre.length]?=some x:=by rw[h]; simp
  have:=Im z es r (pre++[x]) (if !decide (x.ae<z)&&(decide (b<0)||decide (x.ae<(es.getD b.toNat Ai).ae)) then (pre.length:Int) else b) (by rw[h]; simp) ?_
  ·simpa using this
  ·have hl:(pre++[x]).length=pre.length+1:=dk;rw[hl]
   have uL:∀(i:Nat)(y:eM),i<pre.length+1->es[i]?=some y->(i<pre.length\/y=x):=fun i y hi hy=>by
    rcases bK i pre.length with h1|h1
    ·exact .inl h1
    ·have:i=pre.length:=aM;subst this;rw[hx] at hy; injection hy with hy
     exact .inr hy.symm
   split
   ·rename_i hc;simp only[bm,gF,eP,nh,cV,bt] at hc;refine⟨fun h0=>aM,fun _=>⟨x,by simpa using hx,dk,hc.1,fun i y hi hy hz=>?_⟩⟩
    rcases uL i y hi hy with h1|rfl
    ·rcases mD b 0 with h2|h2
     ·have:=(hb.none h2).2 i y h1 hy; omega
     ·obtain⟨e,e1,e2,e3,e4⟩:=hb.some h2;have h3:=hc.2.resolve_left aM;rw[db,e1] at h3;have:=e4 i y h1 hy hz;simp only[bQ] at h3;omega
    ·exact cJ _
   ·rename_i hc;refine⟨fun h0=>⟨(hb.none h0).1,fun i y hi hy=>?_⟩,fun h0=>?_⟩
    ·rcases uL i y hi hy with h1|rfl
     ·exact(hb.none h0).2 i y h1 hy
     ·rcases mD y.ae z with h3|h3
      ·exact h3
      ·exact absurd (by simp[h0,nh.2 h3]) hc
    ·obtain⟨e,e1,e2,e3,e4⟩:=hb.some h0;refine⟨e,e1,aM,e3,fun i y hi hy hz=>?_⟩
     rcases uL i y hi hy with h1|rfl
     ·exact e4 i y h1 hy hz
     ·rcases mD y.ae e.ae with h3|h3
      ·exfalso;refine hc ?_;rw[db,e1];simp[nh.2 hz,h3]
      ·exact h3
def Dg(z:Int)(es:List eM):JE z es es.length (rF z es) :=
 Im z es es [] (-1) rfl ⟨fun _=>⟨rfl,fun i e hi=>absurd hi (kx _)⟩,fun h=>aM⟩
theorem A3(x y:eM):∀l:List eM,y∈wH x l↔y=x\/y∈l
 | []=>by simp[wH]
 |z::r=>by
  rw[wH];split
  ·simp
  ·simp only[ba,A3 x y r]; grind
def r8(y:eM):∀l:List eM,y∈nn l↔y∈l
 | []=>by simp[nn]
 |x::r=>by rw[nn,A3,r8 y r,ba]
def EX(x:eM):∀l:List eM,l.Pairwise (fun a b=>a.ae<b.ae)->(∀y,y∈l->y.ae≠x.ae)->(wH x l).Pairwise fun a b=>a.ae<b.ae
 | [],_,_=>by simp[wH]
 |z::r,h,hn=>by
  obtain⟨h1,h2⟩:=bR.1 h;rw[wH];split
  ·rename_i hc;refine bR.2 ⟨fun y hy=>?_,h⟩
   rcases ba.1 hy with rfl|hy
   ·exact hc
   ·have:=h1 y hy; omega
  ·rename_i hc;refine bR.2 ⟨fun y hy=>?_,EX x r h2 fun y hy=>hn y (aP _ hy)⟩
   rcases(A3 x y r).1 hy with rfl|hy
   ·have:=hn z aG; omega
   ·exact h1 y hy
def zb:∀l:List eM,(l.map eM.ae).Nodup->(nn l).Pairwise fun a b=>a.ae<b.ae
 | [],_=>List.Pairwise.nil
 |x::r,h=>by
  simp only[a8,iK] at h;exact EX x _ (zb r h.2) fun y hy e=>h.1 (cm.2 ⟨y,(r8 y r).1 hy,e⟩)
def Ew:∀ {a b:List eM},a.Pairwise (fun x y=>x.ae<y.ae)->b.Pairwise (fun x y=>x.ae<y.ae)->(∀x,x∈a↔x∈b)->a=b
 | [],[],_,_,_=>rfl
 | [],y::b,_,_,h=>by have:=(h y).2 aG; cases this
 |x::a,[],_,_,h=>by have:=(h x).1 aG; cases this
 |x::a,y::b,ha,hb,h=>by
  obtain⟨ha1,ha2⟩:=bR.1 ha;obtain⟨hb1,hb2⟩:=bR.1 hb
  have e:x=y:=by
   rcases ba.1 ((h x).1 aG) with e|hx
   ·exact e
   ·rcases ba.1 ((h y).2 aG) with e|hy
    ·exact e.symm
    ·have:=ha1 y hy;have:=hb1 x hx;omega
  subst e;congr 1;refine Ew ha2 hb2 fun z=>⟨fun hz=>?_,fun hz=>?_⟩
  ·rcases ba.1 ((h z).1 (aP _ hz)) with rfl|h2
   ·have:=ha1 z hz; omega
   ·exact h2
  ·rcases ba.1 ((h z).2 (aP _ hz)) with rfl|h2
   ·have:=hb1 z hz; omega
   ·exact h2
def xY{z:Int}{l:List eM}{x:eM}:x∈mX z l↔x∈l/\z<=x.ae:=by
 simp[mX,fj,nh]
def BK{z:Int}{l:List eM}(h:(l.map eM.ae).Nodup):((mX z l).map eM.ae).Nodup:=h.sublist (List.Sublist.map _ oH)
def Jd{z:Int}{es:List eM}(hb:rF z es<0):nn (mX z es)=[]:=by
 refine List.eq_nil_iff_forall_not_mem.2 fun x hx=>?_
 obtain⟨h1,h2⟩:=xY.1 ((r8 x _).1 hx);obtain⟨i,hi⟩:=bX h1;have:=((Dg z es).none hb).2 i x (aJ hi) hi;omega
def DL{z:Int}{es:List eM}(hn:(es.map eM.ae).Nodup)(hb:0<=rF z es):∃e,es[(rF z es).toNat]?=some e/\z<=e.ae/\e∈es/\nn (mX z es)=e::nn (mX (e.ae+1) es):=by
 obtain⟨e,e1,e2,e3,e4⟩:=(Dg z es).some hb;have hm:=aU e1;refine⟨e,e1,e3,hm,Ew (zb _ (BK hn)) (bR.2 ⟨fun y hy=>?_,zb _ (BK hn)⟩) fun x=>?_⟩
 ·have:=(xY.1 ((r8 y _).1 hy)).2; omega
 ·rw[r8,xY,ba,r8,xY];constructor
  ·rintro⟨h1,h2⟩;obtain⟨i,hi⟩:=bX h1;have:=e4 i x (aJ hi) hi h2
   by_cases hc:x.ae=e.ae
   ·left;obtain⟨j,hj⟩:=bX hm;have hi':(es.map eM.ae)[i]?=some x.ae:=by rw[bb,hi]; rfl
    have hj':(es.map eM.ae)[j]?=some x.ae:=by rw[bb,hj,hc]; rfl
    have:=IV hn hi' hj';subst this;rw[hi] at hj; injection hj
   ·exact .inr ⟨h1,aM⟩
  ·rintro(rfl|⟨h1,h2⟩)
   ·exact⟨hm,e3⟩
   ·exact⟨h1,aM⟩
def fa(last:Int)(s:Int×Node)(x:Node):Int×Node:=if decide (last<x.ar)&&(s.1==0||decide (x.ar<s.1)) then (x.ar,x) else s
def Cj(last:Int)(h0:0<=last):∀(l:List Node)(s:Int×Node),(s.1=0\/(last<s.1/\s.2.ar=s.1)) ->
  ((l.foldl (fa last) s).1=0/\s.1=0/\∀x,x∈l->x.ar<=last)\/(last<(l.foldl (fa last) s).1/\(l.foldl (fa last) s).2.ar=(l.foldl (fa last) s).1/\((l.foldl (fa last) s).2∈l\/(l.foldl (fa last) s)=s)/\(s.1=0\/(l.foldl (fa last) s).1<=s.1)/\∀x,x∈l->last<x.ar->(l.foldl (fa last) s).1<=x.ar)
 | [],s,hs=>by
  rcases hs with hs|⟨h1,h2⟩
  ·exact .inl ⟨hs,hs,dk⟩
  ·exact .inr ⟨h1,h2,.inr rfl,.inr (cJ _),dk⟩
 |x::l,s,hs=>by
  rw[bB]
  by_cases hc:(decide (last<x.ar)&&(s.1==0||decide (x.ar<s.1)))=true
  ·have e:fa last s x=(x.ar,x):=by rw[fa,av hc]
   simp only[bm,bt,cV,eG] at hc;rw[e];rcases Cj last h0 l (x.ar,x) (.inr ⟨hc.1,rfl⟩) with ⟨_,g2,_⟩|⟨g1,g2,g3,g4,g5⟩
   ·simp only at g2; omega
   ·refine .inr ⟨g1,g2,?_,?_,fun y hy hl=>?_⟩
    ·rcases g3 with g3|g3
     ·exact .inl (aP _ g3)
     ·rw[g3]; exact .inl aG
    ·simp only at g4;rcases hc.2 with h1|h1
     ·exact .inl h1
     ·right; omega
    ·simp only at g4;rcases ba.1 hy with rfl|hy
     ·omega
     ·exact g5 y hy hl
  ·have e:fa last s x=s:=by rw[fa,aj hc]
   simp only[bm,bt,cV,eG,not_and,kB,nh] at hc;rw[e];rcases Cj last h0 l s hs with ⟨g1,g2,g3⟩|⟨g1,g2,g3,g4,g5⟩
   ·refine .inl ⟨g1,g2,fun y hy=>?_⟩
    rcases ba.1 hy with rfl|hy
    ·rcases mD last y.ar with h|h
     ·exact absurd g2 (hc h).1
     ·exact h
    ·exact g3 y hy
   ·refine .inr ⟨g1,g2,?_,g4,fun y hy hl=>?_⟩
    ·rcases g3 with g3|g3
     ·exact .inl (aP _ g3)
     ·exact .inr g3
    ·rcases ba.1 hy with rfl|hy
     ·have:=hc hl;rcases g4 with g4|g4
      ·exact absurd g4 this.1
      ·omega
     ·exact g5 y hy hl
def MA{ns pre post:List Node}{L:List Node}{last:Int}(ha:ng ns)(hp:L.Perm ns)(he:ns=pre++post)(h0:0<=last)(hlo:∀x,x∈pre->x.ar<=last)(hhi:∀x,x∈post->last<x.ar)(z:Node) :
  L.foldl (fa last) (0,z)=match post with|[]=>(0,z)|x::_=>(x.ar,x):=by
 rcases Cj last h0 L (0,z) (.inl rfl) with ⟨g1,_,g3⟩|⟨g1,g2,g3,_,g5⟩
 ·cases post with
  |nil =>
   have:∀(l:List Node),(∀x,x∈l->x.ar<=last)->l.foldl (fa last) (0,z)=(0,z):=by
    intro l;induction l with
    |nil=>intro _; rfl
    |cons x l ih =>
     intro h;rw[bB,fa,aj (by have:=h x aG; simp; omega)]
     exact ih fun y hy=>h y (aP _ hy)
   exact this L g3
  |cons x post =>
   have hx:=g3 x (hp.mem_iff.2 (by rw[he]; simp))
   have:=hhi x aG;omega
 ·generalize hr:L.foldl (fa last) (0,z)=r at g1 g2 g3 g5
  have hm:r.2∈L:=by
   rcases g3 with g3|g3
   ·exact g3
   ·rw[g3] at g1; simp only at g1; omega
  have hmn:r.2∈ns:=hp.mem_iff.1 hm
  have hmp:r.2∈post:=by
   rw[he] at hmn;rcases bC.1 hmn with h|h
   ·have:=hlo _ h; omega
   ·exact h
  cases post with
  |nil=>cases hmp
  |cons x post =>
   have h1:=g5 x (hp.mem_iff.2 (by rw[he]; simp)) (hhi x aG)
   rw[he] at ha;have ha2:=(bR.1 (cC.1 ha).2.1).1;rcases ba.1 hmp with e|h2
   ·subst e; exact ig g2.symm rfl
   ·have:=ha2 _ h2;omega
section
attribute [local irreducible] fP fm kM gK dH kr aq aL cH bP
def Xi(l:List eM)(s:Bytes)(a b:Int):l.map gq++[.agg [.str s,aH a,aH b]]=(l++[eM.mk s a b]).map gq:=by simp[gq,dJ]
def tD(ar:Int):List Node->Nat->Int
 | [],_ => -1
 |n::r,i=>if n.ar=ar then i else tD ar r (i+1)
def adu{t:Tree}{ar:Int}(ht:t.aa.length<=100000){k:List K}{R:Int->Option (ag×aO)}
  (hx:∀e,kr (aq dp) [.tmp 4] 0 k ⟨.exit 0,e,[cL (aY t)]⟩=R (-1)) (hr:∀(i:Nat),kr (aq dp) [.tmp 4] 0 k ⟨.ret,[(4,aH i)],[cL (aY t)]⟩=R i) :
  ∀(l pre:List Node),t.aa=pre++l->fP (aq dp) [.tmp 4] 0 k (.loop [1,2,5] adn) [(1,aH ar),(2,dC 0),(5,aH pre.length)] [cL (aY t)]=R (tD ar l pre.length):=by
 intro l;induction l with
 |nil =>
  intro pre h;rw[cv];simp only[E69,aY,aV,qX h,EN,seval];exact hx _
 |cons n r ih =>
  intro pre h;rw[cv];have fx:pre.length+1<=100000:=by rw[h] at ht; simp at ht; omega
  have hw:=Lu pre n;simp only[E69,aY,aV,pI h,lr h,aI,EN,seval];refine bW (fun hb=>?_) (fun hb=>?_)
  ·have hb:n.ar=ar:=by simpa using hb
   simp only[E69,EN,seval];rw[tD,av hb];exact hr _
  ·have hb:¬n.ar=ar:=by simpa using hb
   simp only[E69,hw,EN,seval];rw[tD,aj hb];have:=ih (pre++[n]) (by rw[h]; simp)
   simp only[aR,aD,aF] at this ⊢;exact this
def c69(t:Tree)(ar:Int)(ht:t.aa.length<=100000):aq dp 69 [bD t,aH ar] []=some (aH (tD ar t.aa 0),[]):=by
 refine aw ?_;simp only[ahf,E69,bD,EN,seval];exact adu (R:=fun z=>some (aH z,[])) ht (fun e=>by simp only[E69,EN,seval]) (fun i=>by simp only[E69,EN,seval]) t.aa [] rfl
def k69(aa:List Node)(next ae ar:Int)(h:aa.length<=100000)(M:aO):aL (aq dp) 69 [.agg [aV aa,aH next,aH ae],aH ar] M=some (aH (tD ar aa 0),M) :=
 cO (c69 ⟨aa,next,ae⟩ ar h) M
def wm(ar:Int):∀(l:List Node)(i:Nat),(find l ar=none/\tD ar l i = -1)\/∃m n,l[m]?=some n/\find l ar=some n/\tD ar l i=((i+m:Nat):Int)
 | [],_ => .inl ⟨rfl,rfl⟩
 |n::r,i=>by
  unfold find tD
  by_cases h:n.ar=ar
  ·exact .inr ⟨0,n,rfl,by simp[h],by simp[h]⟩
  ·rcases wm ar r (i+1) with ⟨h1,h2⟩|⟨m,n',h1,h2,h3⟩
   ·exact .inl ⟨by simp[h]; simpa[find] using h1,by simp[h,h2]⟩
   ·exact .inr ⟨m+1,n',by simpa using h1,by simp[h]; simpa[find] using h2,by simp[h,h3]; omega⟩
def c26(t:Tree)(ar:Int)(ht:t.aa.length<=100000):aq dp 26 [bD t,aH ar] []=some (.tuple [bJ ((find t.aa ar).getD Node.zero),.bool (find t.aa ar).isSome],[]):=by
 refine aw ?_;simp only[agS,E26,bD,aY,k69,ht,EN,seval];rcases wm ar t.aa 0 with ⟨h1,h2⟩|⟨m,n,h1,h2,h3⟩
 ·rw[h2];simp only[E26,h1,EN,seval];rfl
 ·rw[h3];simp only[E26,h1,h2,aV,aI,EN,seval];rfl
def Ha(aa:List Node)(next ae ar:Int)(h:aa.length<=100000)(M:aO):aL (aq dp) 26 [.agg [aV aa,aH next,aH ae],aH ar] M=some (.tuple [bJ ((find aa ar).getD Node.zero),.bool (find aa ar).isSome],M) :=
 cO (c26 ⟨aa,next,ae⟩ ar h) M
def akD(t:Tree)(ar:Int)(ht:t.aa.length<=100000):aq dp 116 [bD t,aH ar] []=some (.tuple [bJ (gM t.aa ar).1,aH (gM t.aa ar).2],[]):=by
 refine aw ?_;simp only[YA,U6,bD,aY,Ha,ht,bJ,aI,EN,seval];unfold gM;cases hf:find t.aa ar with
 |none=>simp only[U6,Option.isSome,EN,seval]; first|done|rfl
 |some n =>
  simp only[U6,Option.isSome,bQ,EN,seval]
  repeat' ((first|apply bW|apply c8|apply fq)<;>intro hb<;>simp only[hb,EN,U6,seval])
  all_goals simp_all [Node.zero]
def Wf(aa:List Node)(next ae ar:Int)(h:aa.length<=100000)(M:aO):aL (aq dp) 116 [.agg [aV aa,aH next,aH ae],aH ar] M=some (.tuple [bJ (gM aa ar).1,aH (gM aa ar).2],M) :=
 cO (akD ⟨aa,next,ae⟩ ar h) M
def tw(s:Bytes):List eM->Nat->Int
 | [],_ => -1
 |n::r,i=>if n.name=s then i else tw s r (i+1)
def tx(s:Bytes):∀(l:List eM)(i:Nat),(eE l s=none/\tw s l i = -1)\/∃m n,l[m]?=some n/\eE l s=some n/\tw s l i=((i+m:Nat):Int)
 | [],_ => .inl ⟨rfl,rfl⟩
 |n::r,i=>by
  unfold eE tw
  by_cases h:n.name=s
  ·exact .inr ⟨0,n,rfl,by simp[h],by simp[h]⟩
  ·rcases tx s r (i+1) with ⟨h1,h2⟩|⟨m,n',h1,h2,h3⟩
   ·exact .inl ⟨by simp[h]; simpa[eE] using h1,by simp[h,h2]⟩
   ·exact .inr ⟨m+1,n',by simpa using h1,by simp[h]; simpa[eE] using h2,by simp[h,h3]; omega⟩
def WX{t:Node}{s:Bytes}(ht:t.aK.length<=100000){k:List K}{R:Int->Option (ag×aO)}
  (hx:∀e,kr (aq dp) [.tmp 4] 0 k ⟨.exit 0,e,[cL (aI t)]⟩=R (-1)) (hr:∀(i:Nat),kr (aq dp) [.tmp 4] 0 k ⟨.ret,[(4,aH i)],[cL (aI t)]⟩=R i) :
  ∀(l pre:List eM),t.aK=pre++l->fP (aq dp) [.tmp 4] 0 k (.loop [1,2,5] Wz) [(1,.str s),(2,dC 0),(5,aH pre.length)] [cL (aI t)]=R (tw s l pre.length):=by
 intro l;induction l with
 |nil =>
  intro pre h;rw[cv];simp only[Js,aI,iU,qX h,EN,seval];exact hx _
 |cons n r ih =>
  intro pre h;rw[cv];have fx:pre.length+1<=100000:=by rw[h] at ht; simp at ht; omega
  have hw:=Lu pre n;simp only[Js,aI,iU,pI h,lr h,dJ,EN,seval];refine bW (fun hb=>?_) (fun hb=>?_)
  ·have hb:n.name=s:=by simpa using hb
   simp only[Js,EN,seval];rw[tw,av hb];exact hr _
  ·have hb:¬n.name=s:=by simpa using hb
   simp only[Js,hw,EN,seval];rw[tw,aj hb];have:=ih (pre++[n]) (by rw[h]; simp)
   simp only[aR,aD,aF] at this ⊢;exact this
def akF(t:Node)(s:Bytes)(ht:t.aK.length<=100000):aq dp 118 [bJ t,.str s] []=some (aH (tw s t.aK 0),[]):=by
 refine aw ?_;simp only[YB,Js,bJ,EN,seval];exact WX (R:=fun z=>some (aH z,[])) ht (fun e=>by simp only[Js,EN,seval]) (fun i=>by simp only[Js,EN,seval]) t.aK [] rfl
def abF(a b c:Int)(d:Bytes)(e:List eM)(u:Int)(s:Bytes)(h:e.length<=100000)(M:aO):aL (aq dp) 118 [.agg [aH a,aH b,aH c,mc d,iU e,aH u],.str s] M=some (aH (tw s e 0),M) :=
 cO (akF ⟨a,b,c,d,e,u⟩ s h) M
def WW{s:Bytes}(hs:s.length<=100000){k:List K}{R:Bool->Option (ag×aO)}
  (hx:∀e,kr (aq dp) [.tmp 2] 0 k ⟨.exit 0,e,[]⟩=R true) (hr:kr (aq dp) [.tmp 2] 0 k ⟨.ret,[(2,.bool false)],[]⟩=R false) :
  ∀(l pre:Bytes),s=pre++l->fP (aq dp) [.tmp 2] 0 k (.loop [0,3] Wy) [(0,.str s),(3,aH pre.length)] []=R (l.all tf):=by
 intro l;induction l with
 |nil =>
  intro pre h;rw[cv];simp only[Gb,qX h,EN,seval];exact hx _
 |cons n r ih =>
  intro pre h;rw[cv];have fx:pre.length+1<=100000:=by rw[h] at hs; simp at hs; omega
  have hw:=Lu pre n;have hi:=ih (pre++[n]) (by rw[h]; simp)
  simp only[aR,aD,aF] at hi;simp only[Gb,pI h,lr h,EN,seval]
  repeat' ((first|apply bW|apply c8|apply fq)<;>intro hb<;>simp only[hb,EN,Gb,lr h,hw,seval])
  all_goals try simp only[Gb,EN,seval]
  all_goals first
   |(refine hr.trans ?_; congr 1; symm; simp_all [tf]; done)
   |(refine hi.trans ?_; congr 1; symm; simp_all [tf]; done)
def akE(s:Bytes)(hs:s.length<=100000):aq dp 117 [.str s] []=some (.bool (dB s),[]):=by
 refine aw ?_;simp only[QC,Gb,EN,seval];have hl:=fun k hx hr=>WW (k:=k) (R:=fun b=>some (ag.bool b,[])) hs hx hr s [] rfl
 repeat' ((first|apply bW|apply c8|apply fq)<;>intro hb<;>simp only[hb,EN,Gb,seval])
 all_goals first
  |(simp_all [dB]; done)
  |(refine(hl _ (fun e=>by simp only[Gb,EN,seval]) (by simp only[Gb,EN,seval])).trans ?_; simp_all [dB]; done)
def Oh s hs:=cP (akE s hs)
def c56(t:Tree)(ar:Int)(s:Bytes)(ht:Small t)(hs:s.length<=100000):aq dp 56 [bD t,aH ar,.str s] []=some (.tuple [aH (eB t.aa ar s).1,aH (eB t.aa ar s).2],[]):=by
 refine aw ?_;have hd:=tK ht ar;simp only[ag9,E56,bD,aY,Wf,ht.aa,bJ,aI,EN,seval];unfold eB;refine bW (fun hb=>?_) (fun hb=>?_)
 ·simp only[E56,EN,seval];simp_all
 ·simp only[E56,Oh,hs,EN,seval];refine bW (fun hb'=>?_) (fun hb'=>?_)
  ·simp only[E56,EN,seval];simp_all
  ·simp only[E56,abF,hd,EN,seval];rcases tx s (gM t.aa ar).1.aK 0 with ⟨h1,h2⟩|⟨m,n,h1,h2,h3⟩
   ·rw[h2];simp only[E56,EN,seval];simp_all
   ·rw[h3];simp only[E56,h1,iU,dJ,EN,seval];simp_all
def k56(aa:List Node)(next ae ar:Int)(s:Bytes)(ht:Small ⟨aa,next,ae⟩)(hs:s.length<=100000)(M:aO):aL (aq dp) 56 [.agg [aV aa,aH next,aH ae],aH ar,.str s] M =
  some (.tuple [aH (eB aa ar s).1,aH (eB aa ar s).2],M):=cO (c56 ⟨aa,next,ae⟩ ar s ht hs) M
def WU{t:Tree}{n:Node}(ht:t.aa.length<=100000){k:List K}{R:List Node->Bool->Option (ag×aO)}
  (hx:∀out done v e,out.length<=300000->kr (aq dp) [.fI 4 3] 0 k ⟨.exit 0,[(2,dC 0),(3,dC 1),(4,dC 2),(5,.slice (.own 3) (out.map bJ)),(6,.bool done),(7,v),(12,e)],[cL (aY t),cL (aI n),.cells zT,.tick 6 out.length]⟩=R out done) :
  ∀(l pre out:List Node)(done:Bool),t.aa=pre++l->out.length+2*l.length<=300000->fP (aq dp) [.fI 4 3] 0 k (.loop [2,3,4,5,6,7] Ww) [(2,dC 0),(3,dC 1),(4,dC 2),(5,.slice (.own 3) (out.map bJ)),(6,.bool done),(7,aH pre.length)] [cL (aY t),cL (aI n),.cells zT,.tick 6 out.length]=R (oB n l out done).1 (oB n l out done).2:=by
 intro l;induction l with
 |nil =>
  intro pre out done h ho;rw[cv];simp only[Jq,aY,aV,qX h,EN,seval];exact hx _ _ _ _ (by simp at ho; omega)
 |cons m r ih =>
  intro pre out done h ho;rw[cv];have fx:pre.length+1<=100000:=by rw[h] at ht; simp at ht; omega
  have hw:=Lu pre m;have hi:=fun out done ho=>ih (pre++[m]) out done (by rw[h]; simp) ho
  simp only[aD] at ho;have r1:dY (out.length+1) 80=True:=xt;have r2:dY (out.length+1+1) 80=True:=xt;rw[oB];simp only[Jq,aY,aV,pI h,lr h,aI,EN,seval]
  repeat' ((first|apply bW|apply c8|apply fq)<;>intro hb<;>simp only[hb,EN,Jq,lr h,hw,r1,r2,aI,seval])
  all_goals try simp only[Jq,lr h,hw,r1,r2,aI,EN,seval]
  all_goals first
   |(refine dj ?_ ((hi (out++[n]++[m]) true ic).trans ?_)
     ·simp only[bH,a8,bE,aR,aD,aF]; rfl
     ·clear hi ih hx hw h; simp_all; done)
   |(refine dj ?_ ((hi (out++[n]) true ic).trans ?_)
     ·simp only[bH,a8,bE,aR,aD,aF]; rfl
     ·clear hi ih hx hw h; simp_all; done)
   |(refine dj ?_ ((hi (out++[m]) done ic).trans ?_)
     ·simp only[bH,a8,bE,aR,aD,aF]; rfl
     ·clear hi ih hx hw h; simp_all; done)
   |(refine dj ?_ ((hi out done aM).trans ?_)
     ·simp only[bH,a8,bE,aR,aD,aF]; rfl
     ·clear hi ih hx hw h; simp_all; done)
def akA(t:Tree)(n:Node)(ht:t.aa.length<=100000):aq dp 112 [bD t,bJ n] []=some (bD ⟨eS t.aa n,t.next,t.ae⟩,[]):=by
 refine aw ?_;simp only[QA,Jq,bD,bJ,EN,seval];refine WU (R:=fun out done=>some (bD ⟨out++(if done then [] else [n]),t.next,t.ae⟩,[])) ht (fun out done v e ho=>?_) t.aa [] [] false rfl ic
 have r1:dY (out.length+1) 80=True:=xt;cases done
 ·simp only[Jq,r1,bD,aY,zT,aI,EN,seval];simp[aV,bJ,aI]
 ·simp only[Jq,r1,bD,aY,zT,aI,EN,seval]
  try simp[aV]
def Ie(aa:List Node)(next ae a b c:Int)(d:Bytes)(e:List eM)(u:Int)(h:aa.length<=100000)(M:aO):aL (aq dp) 112 [.agg [aV aa,aH next,aH ae],.agg [aH a,aH b,aH c,mc d,iU e,aH u]] M =
  some (.agg [aV (eS aa ⟨a,b,c,d,e,u⟩),aH next,aH ae],M):=cO (akA ⟨aa,next,ae⟩ ⟨a,b,c,d,e,u⟩ h) M
def W7{t:Tree}{ar:Int}(ht:t.aa.length<=100000){k:List K}{R:List Node->Option (ag×aO)}
  (hx:∀out v e,out.length<=300000->kr (aq dp) [.fI 4 3] 0 k ⟨.exit 0,[(1,aH ar),(2,dC 0),(4,dC 1),(5,.slice (.own 2) (out.map bJ)),(6,v),(11,e)],[cL (aY t),.cells zT,.tick 6 out.length]⟩=R out) :
  ∀(l pre out:List Node),t.aa=pre++l->out.length+l.length<=150000->fP (aq dp) [.fI 4 3] 0 k (.loop [1,2,4,5,6] WJ) [(1,aH ar),(2,dC 0),(4,dC 1),(5,.slice (.own 2) (out.map bJ)),(6,aH pre.length)] [cL (aY t),.cells zT,.tick 6 out.length]=R (out++je l ar):=by
 intro l;induction l with
 |nil =>
  intro pre out h ho;rw[cv];simp only[PD,aY,aV,qX h,EN,seval];refine(hx _ _ _ (by simp at ho; omega)).trans (by simp[je])
 |cons m r ih =>
  intro pre out h ho;rw[cv];have fx:pre.length+1<=100000:=by rw[h] at ht; simp at ht; omega
  have hw:=Lu pre m;have hi:=fun out ho=>ih (pre++[m]) out (by rw[h]; simp) ho
  simp only[aD] at ho;have r1:dY (out.length+1) 80=True:=xt;simp only[PD,aY,aV,pI h,lr h,aI,EN,seval]
  repeat' ((first|apply bW|apply c8|apply fq)<;>intro hb<;>simp only[hb,EN,PD,lr h,hw,r1,aI,seval])
  all_goals first
   |(refine dj ?_ ((hi (out++[m]) ic).trans ?_)
     ·simp only[bH,a8,bE,aR,aD,aF]; rfl
     ·clear hi ih hx hw h; simp_all[je]; done)
   |(refine dj ?_ ((hi out aM).trans ?_)
     ·simp only[bH,a8,bE,aR,aD,aF]; rfl
     ·clear hi ih hx hw h; simp_all[je]; done)
def alf(t:Tree)(ar:Int)(ht:t.aa.length<=100000):aq dp 181 [bD t,aH ar] []=some (bD ⟨je t.aa ar,t.next,t.ae⟩,[]):=by
 refine aw ?_;simp only[QJ,PD,bD,EN,seval];refine(W7 (R:=fun out=>some (bD ⟨out,t.next,t.ae⟩,[])) ht (fun out v e ho=>?_) t.aa [] [] rfl ic).trans (by simp[bD])
 simp only[PD,bD,aY,zT,EN,seval]
 try simp[aV]
def ahO(aa:List Node)(next ae ar:Int)(h:aa.length<=100000)(M:aO):aL (aq dp) 181 [.agg [aV aa,aH next,aH ae],aH ar] M =
  some (.agg [aV (je aa ar),aH next,aH ae],M):=cO (alf ⟨aa,next,ae⟩ ar h) M
def WV{T:List ag}{n:Node}{s:Bytes}(hn:n.aK.length<=100000){k:List K}{R:List eM->Option (ag×aO)}
  (hx:∀out v e,out.length<=300000->kr (aq dp) [.fI 6 3] 0 k ⟨.exit 0,[(2,.str s),(3,dC 0),(6,dC 1),(7,dC 2),(9,.slice (.own 3) (out.map gq)),(10,v),(21,e)],[.cells T,.cells zT,cL (aI n),.tick 3 out.length]⟩=R out)
  (hT:∀B M,T.map (ag.kG B M)=T) :
  ∀(l pre out:List eM),n.aK=pre++l->out.length+l.length<=150000->fP (aq dp) [.fI 6 3] 0 k (.loop [2,3,6,7,9,10] Wx) [(2,.str s),(3,dC 0),(6,dC 1),(7,dC 2),(9,.slice (.own 3) (out.map gq)),(10,aH pre.length)] [.cells T,.cells zT,cL (aI n),.tick 3 out.length]=R (out++fO l s):=by
 intro l;induction l with
 |nil =>
  intro pre out h ho;rw[cv];simp only[Jr,aI,iU,qX h,EN,seval];refine(hx _ _ _ (by simp at ho; omega)).trans (by simp[fO])
 |cons m r ih =>
  intro pre out h ho;rw[cv];have fx:pre.length+1<=100000:=by rw[h] at hn; simp at hn; omega
  have hw:=Lu pre m;have hi:=fun out ho=>ih (pre++[m]) out (by rw[h]; simp) ho
  simp only[aD] at ho;have r1:dY (out.length+1) 32=True:=xt;simp only[Jr,aI,iU,pI h,lr h,dJ,hT,zT,EN,seval]
  repeat' ((first|apply bW|apply c8|apply fq)<;>intro hb<;>simp only[hb,EN,Jr,lr h,hw,r1,dJ,hT,zT,seval])
  all_goals first
   |(refine dj ?_ ((hi (out++[m]) ic).trans ?_)
     ·simp only[bH,a8,bE,aR,aD,aF]; rfl
     ·clear hi ih hx hw h hT; simp_all[fO]; done)
   |(refine dj ?_ ((hi out aM).trans ?_)
     ·simp only[bH,a8,bE,aR,aD,aF]; rfl
     ·clear hi ih hx hw h hT; simp_all[fO]; done)
def ED{t:Tree}(hs:Small t)(ar:Int):((find t.aa ar).getD Node.zero).aK.length<=100000:=by
 cases h:find t.aa ar with
 |none=>simp[Node.zero]
 |some n=>exact hs.aK n (cr h).1
def akC(t:Tree)(ar:Int)(s:Bytes)(ht:Small t):aq dp 115 [bD t,aH ar,.str s] []=some (bD ⟨dU t.aa ar s,t.next,t.ae⟩,[]):=by
 refine aw ?_;have hd:=ED ht ar;unfold dU;simp only[QB,Jr,bD,aY,Ha,ht.aa,bJ,EN,seval];generalize (find t.aa ar).getD Node.zero=n at hd ⊢;simp only[Jr,aI,EN,seval];refine(WV (R:=fun out=>some (bD ⟨eS t.aa { n with aK:=out },t.next,t.ae⟩,[])) hd (fun out v e ho=>?_) (fun B M=>by simp only[Jr,EN,seval]) n.aK [] [] rfl ic).trans (by simp[bD,aY])
 simp only[Jr,zT,aI,Ie,ht.aa,EN,seval];simp[bD,aY]
def adt{s:Bytes}(hs:s.length<=100000){k:List K}{R:Option (List Bytes)->Option (ag×aO)}
  (hx:∀(l:List Bytes) z,kr (aq dp) [.tmp 2,.tmp 3] 0 k ⟨.exit 0,(0,.str s)::(4,.slice (.own 0) (l.map .str))::z,[.tick 1 l.length]⟩=R (some l))
  (hr:∀n,kr (aq dp) [.tmp 2,.tmp 3] 0 k ⟨.ret,[(2,.slice .c0 []),(3,aH 60)],[.tick 1 n]⟩=R none) :
  ∀(rest:Bytes)(n m:Nat)(cur:Bytes)(out:List Bytes),s.drop m=rest->m+rest.length=s.length->n<=m->(s.take m).drop n=cur->out.length<=12 ->
   fP (aq dp) [.tmp 2,.tmp 3] 0 k (.loop [0,4,5,6] adm) [(0,.str s),(4,.slice (.own 0) (out.map .str)),(5,aH n),(6,aH m)] [.tick 1 out.length]=R (wP rest cur out):=by
 intro rest;induction rest with
 |nil =>
  intro n m cur out h1 h2 h3 h4 h5;simp only[aF,dq] at h2;rw[cv];have e1:((m:Int)<=(s.length:Int))=True:=x7;have e2:((m:Int)<(s.length:Int))=False:=GV;have e3:((n:Int)<=(m:Int))=True:=x7;have w1:IntKind.i64.wrap ((m:Int)+1)=(m:Int)+1:=gb aM aM;have e4:((m:Int)+1<=(s.length:Int))=False:=GV;have hc:cur.length<=100000:=by rw[<-h4]; simp; omega
  have q:=fun M=>Oh cur hc M
  have r1:dY (out.length+1) 16=True:=xt;have i1:=hx (out++[cur]);simp only[bH,a8,bE,aR,aD,aF,aN] at i1;rw[wP]
  cases h6:dB cur<;>rw[h6] at q<;>cases h7:(out.length:Int)==12 <;>
   simp only[Pr,e1,e2,e3,h4,q,h7,dL,dE,dz,fE,aE,af,aC,EW,seval]<;>first|exact hr _|skip
  simp only[Pr,r1,w1,EW,seval];rw[cv];simp only[Pr,e4,EW,seval];exact i1 _
 |cons b r ih =>
  intro n m cur out h1 h2 h3 h4 h5;simp only[aD] at h2;rw[cv];have e1:((m:Int)<=(s.length:Int))=True:=x7;have e2:((m:Int)<(s.length:Int))=True:=x7;have e3:((n:Int)<=(m:Int))=True:=x7;have w1:IntKind.i64.wrap ((m:Int)+1)=((m+1:Nat):Int):=by rw[gb aM aM]; rfl
  have hc:cur.length<=100000:=by rw[<-h4]; simp; omega
  have hb:s[m]?=some b:=by
   have:(s.drop m)[0]?=some b:=by rw[h1]; rfl
   simpa using this
  have hd:s.drop (m+1)=r:=by rw[<-List.drop_drop,h1]; rfl
  have hm:=(au.1 hb).1
  have ht:(s.take (m+1)).drop n=cur++[b]:=by
   rw[eU,hb,Option.toList_some,List.drop_append_of_le_length ic,h4]
  have q:=fun M=>Oh cur hc M
  have r1:dY (out.length+1) 16=True:=xt;have i1:=ih n (m+1) (cur++[b]) out hd aM aM ht h5;have i2:=fun h=>ih (m+1) (m+1) [] (out++[cur]) hd aM aM dk h
  simp only[bH,a8,bE,aR,aD,aF,aN] at i2;rw[wP];cases h8:(b.toNat:Int) != 47
  ·cases h6:dB cur<;>rw[h6] at q<;>cases h7:(out.length:Int)==12 <;>
    simp only[Pr,e1,e2,e3,h4,hb,h8,q,h7,dL,dE,dz,fE,aE,af,aC,EW,seval]<;>first|exact hr _|skip
   have h9:out.length+1<=12:=by simp at h7; omega
   simp only[Pr,r1,w1,EW,seval];exact i2 h9
  ·simp only[Pr,e1,e2,hb,h8,w1,aE,EW,seval];exact i1
def c67(s:Bytes)(hs:s.length<=100000):aq dp 67 [.str s] []=some (.tuple [fX (jJ s).1,aH (jJ s).2],[]):=by
 refine aw ?_;unfold jJ;cases h0:s==[47]
 ·cases s with
  |nil=>simp only[N0,Pr,h0,af,aC,EW,seval]; rfl
  |cons b r =>
   have h1:((b::r)==[])=false:=rfl;cases h8:(b.toNat:Int) != 47
   ·have hl:=fun {k R} hx hr=>adt hs (k:=k) (R:=R) hx hr r 1 1 [] [] rfl ic aM dk dk
    simp only[bE,aF] at hl;simp only[N0,Pr,h0,h1,h8,af,aC,EW,seval];refine hl (R:=fun o=>some (.tuple [fX (match o with|none=>(([]:List Bytes),(60:Int))|some l=>(l,0)).1,aH (match o with|none=>(([]:List Bytes),(60:Int))|some l=>(l,0)).2],[])) (fun l z=>?_) (fun n=>?_)
    ·simp only[Pr,EW,seval]
    ·simp only[Pr,EW,seval]; rfl
   ·simp only[N0,Pr,h0,h1,h8,af,aC,aE,EW,seval]; rfl
 ·simp only[N0,Pr,h0,aE,EW,seval]; rfl
def k67 s hs:=cP (c67 s hs)
def c88(l:List Bytes)(hl:l.length<=100)(h:∀x,x∈l->x.length<=32):aq dp 88 [fX l] []=some (.str (E2 l),[]):=by
 refine aw ?_;unfold E2;cases h0:(l.length:Int)==0<;>simp only[ahm,E88,h0,af,aC,aE,EW,seval]
 have key:∀ {k:List K} {R:Bytes->Option (ag×aO)} (hx:∀s z,kr (aq dp) [.tmp 2] 0 k ⟨.exit 0,(0,fX l)::(3,.str s)::z,[]⟩=R s) (rest pre:List Bytes) (s:Bytes),l=pre++rest->s.length<=33*pre.length->fP (aq dp) [.tmp 2] 0 k (.loop [0,3,4] ado) [(0,fX l),(3,.str s),(4,aH pre.length)] []=R (yT rest s):=by
  intro k R hx rest;induction rest with
  |nil =>
   intro pre s e _;rw[cv];simp only[E88,qX e,yT,ia,EW,seval];exact hx _ _
  |cons x r ih =>
   intro pre s e hs;rw[cv];have hxl:=h x (by rw[e]; simp)
   have hp:pre.length+1<=100:=by rw[e] at hl; simp at hl; omega
   have hw:=Lu pre x;have i1:=ih (pre++[x]) (s++[47]++x) (by rw[e]; simp) ic
   have m1:(IntKind.i64.max<((s.length+1:Nat):Int))=False:=max_lt _ aM;have m2:(IntKind.i64.max<((s.length+1+x.length:Nat):Int))=False:=max_lt _ aM;simp only[aR,aD,aF,aN] at i1;simp only[yT,bB] at i1 ⊢;simp only[E88,pI e,lr e,hw,m1,m2,EW,seval];exact i1
 exact key (R:=fun s=>some (.str s,[])) (fun s z=>by simp only[E88,EW,seval]) l [] [] rfl dk
def k88 l hl h:=cP (c88 l hl h)
def E5(s:Bytes):Bytes×Bytes×Int:=if (jJ s).2 != 0||(((jJ s).1.length:Int)==0) then ([],[],60) else ((jJ s).1.getLast?.getD [],E2 (jJ s).1.dropLast,0)
def akx(s:Bytes)(hs:s.length<=100000):aq dp 109 [.str s] []=some (.tuple [.str (E5 s).1,.str (E5 s).2.1,aH (E5 s).2.2],[]):=by
 refine aw ?_;have q:=fun M=>k67 s hs M
 obtain⟨o1,o2⟩:=Bj s;unfold E5;generalize jJ s=X at q o1 o2;obtain⟨l,e⟩:=X;simp only at q o1 o2 ⊢;cases h1:e != 0
 ·cases h2:(l.length:Int)==0
  ·obtain⟨A,x,rfl⟩:∃A x,l=A++[x]:=by
    refine⟨l.dropLast,l.getLast (by rintro rfl; simp at h2),(List.dropLast_concat_getLast _).symm⟩
   have qj:=fun M=>k88 A (by simp at o2; omega) (fun y hy=>qY (o1 y (by simp[hy]))) M
   simp only[aR,aD,aF,aN] at h2 o2;have w1:IntKind.i64.wrap (((A.length+1:Nat):Int)-1)=(A.length:Int):=by rw[gb aM aM]; omega
   have a1:(A++[x])[A.length]?=some x:=dk;have a2:((A.length:Int)<((A.length+1:Nat):Int))=True:=x7;have a3:((A.length:Int)<=((A.length+1:Nat):Int))=True:=x7;have a4:((A.length:Int)<0)=False:=dk;have a5:(A++[x]).take A.length=A:=dk;simp only[LZ,Z7,q,h1,h2,w1,a2,a3,a4,a1,<-jC,a5,qj,dK,fE,af,aC,List.getLast?_append,List.getLast?_singleton,List.dropLast_concat,bQ,Option.or_some,Option.some_or,EW,seval]
  ·simp only[LZ,Z7,q,h1,h2,dz,dE,aE,EW,seval]
 ·simp only[LZ,Z7,q,h1,dL,aE,EW,seval]
def al4 s hs:=cP (akx s hs)
def c24(t:Tree)(s:Bytes)(ht:Small t)(hs:s.length<=100000):aq dp 24 [bD t,.str s] []=some (.tuple [aH (sR t.aa s).1,aH (sR t.aa s).2],[]):=by
 refine aw ?_;have q:=fun M=>k67 s hs M
 obtain⟨o1,o2⟩:=Bj s;unfold sR;generalize jJ s=X at q o1 o2;obtain⟨l,e⟩:=X;simp only at q o1 o2 ⊢;cases h1:e != 0<;>simp only[agP,E24,bD,aY,q,h1,af,aC,aE,EW,seval]
 refine sY (xs:=l) aM (wz t.aa) (fun a i=>[(2,dC 0),(6,fX l),(8,aH a),(9,aH i)]) (fun _=>[cL [aV t.aa,aH t.next,aH t.ae]]) (fun p=>some (.tuple [aH p.1,aH p.2],([]:aO))) (fun a=>?_) (fun pre x post a h hx cA hw h0 hm hi=>?_) 1
 ·simp only[E24,aX,wz,EW,seval]
 ·have ql:=fun M=>k56 t.aa t.next t.ae a x ht (by have:=qY (o1 x hm); omega) M
  rw[wz];have i1:=hi (eB t.aa a x).1;generalize eB t.aa a x=u at ql i1;cases h2:u.2 != 0<;>simp only[E24,cA,hx,hw,ql,h2,af,aC,aE,EW,seval]
  exact i1
def k24(aa:List Node)(next ae:Int)(s:Bytes)(ht:Small ⟨aa,next,ae⟩)(hs:s.length<=100000)(M:aO):aL (aq dp) 24 [.agg [aV aa,aH next,aH ae],.str s] M=some (.tuple [aH (sR aa s).1,aH (sR aa s).2],M):=cO (c24 ⟨aa,next,ae⟩ s ht hs) M
end
def AX(z:Int)(es:List eM)(s:Nat×Int)(e:eM):Nat×Int:=(s.1+1,if !decide (e.ae<z)&&(decide (s.2<0)||decide (e.ae<(es.getD s.2.toNat Ai).ae)) then (s.1:Int) else s.2)
def On(z:Int)(es:List eM):rF z es=(es.foldl (AX z es) (0,-1)).2:=rfl
def IG(z:Int)(es:List eM):∀(r:List eM)(s:Nat×Int),(r.foldl (AX z es) s).1=s.1+r.length
 | [],s=>rfl
 |x::r,s=>by rw[bB,IG z es r]; simp only[AX,aD]; omega
section
attribute [local irreducible] fP fm kM gK dH kr aq aL cH bP
section
variable {t:Tree} {n:Node} {many:Int} {R:Option (ag×aO)}
abbrev liM(t:Tree)(n:Node)(out:List eM):aO:=[.cells [aV t.aa,.int .i64 t.next,.int .i64 t.ae],.cells [.int .i64 n.ar,.int .i64 n.kind,.int .i64 n.df,mc n.data,iU n.aK,.int .i64 n.up],.tick 3 out.length]
def IB(hn:n.aK.length<=100000){nw:Int}{out:List eM}{k:List K}
  (hx:∀z,kr (aq dp) [.tmp 8,.tmp 9,.tmp 10] 0 k ⟨.exit 2,(2,aH nw)::(3,aH many)::(11,dC 1)::(13,.slice (.own 2) (out.map gq))::(14,aH (rF nw n.aK))::z,liM t n out⟩=R) :
  fP (aq dp) [.tmp 8,.tmp 9,.tmp 10] 0 k (.loop [2,3,11,13,14,15] Ws) [(2,aH nw),(3,aH many),(11,dC 1),(13,.slice (.own 2) (out.map gq)),(14,aH (-1)),(15,aH 0)] (liM t n out)=R:=by
 refine gV (xs:=n.aK) aM (fun j (b:Int)=>b=((n.aK.take j).foldl (AX nw n.aK) (0,-1)).2/\(b = -1\/∃i:Nat,i<n.aK.length/\b=i)) (fun _ (_:Int)=>()) (fun b i=>[(2,aH nw),(3,aH many),(11,dC 1),(13,.slice (.own 2) (out.map gq)),(14,aH b),(15,aH i)]) (fun _=>liM t n out) (fun _=>R) (fun b hb=>?_) (fun pre e post b h hx' cA hw h0 hm hb hi=>?_) (-1) ⟨rfl,.inl rfl⟩
 ·obtain⟨hb,-⟩:=hb;rw[bT,<-On] at hb;subst hb;simp only[wK,aX,EW,seval];exact hx _
 ·obtain⟨hb1,hb2⟩:=hb;have hp:=(au.1 hx').1;have hl:((n.aK.take pre.length).foldl (AX nw n.aK) (0,-1)).1=pre.length:=by rw[IG,fL]; simp only; omega
  have ht:((n.aK.take (pre.length+1)).foldl (AX nw n.aK) (0,-1)).2=(AX nw n.aK (pre.length,b) e).2:=by
   rw[eU,hx',kQ];simp only[Option.toList,bB,ia];rw[show((n.aK.take pre.length).foldl (AX nw n.aK) (0,-1))=(pre.length,b) from ig hl hb1.symm]
  rcases hb2 with rfl|⟨a,ha,rfl⟩
  ·cases h1:decide (e.ae<nw)
   ·have i1:=hi pre.length ⟨by rw[ht]; simp[AX,h1],.inr ⟨_,hp,rfl⟩⟩
    have h1':decide (nw<=e.ae)=true:=by simpa using h1
    simp only[wK,cA,hx',hw,h0,h1,h1',gq,dJ,EW,seval];exact i1
   ·have i1:=hi (-1) ⟨by rw[ht]; simp[AX,h1],.inl rfl⟩
    have h1':decide (nw<=e.ae)=false:=by simpa using h1
    simp only[wK,cA,hx',hw,h0,h1,h1',gq,dJ,EW,seval];exact i1
  ·have a0:((a:Int)<0)=False:=dk;have a1:((a:Int)<(n.aK.length:Int))=True:=x7;obtain⟨y,hy⟩:∃y,n.aK[a]?=some y:=⟨_,ai ha⟩;have hg:n.aK.getD a Ai=y:=by rw[db,hy]; rfl
   cases h1:decide (e.ae<nw)
   ·have h1':decide (nw<=e.ae)=true:=by simpa using h1
    cases h2:decide (e.ae<y.ae)
    ·have i1:=hi a ⟨by rw[ht]; simp[AX,h1,hy]; simp at h2; omega,.inr ⟨_,ha,rfl⟩⟩
     simp only[wK,cA,hx',hw,h0,a0,a1,hy,h1,h1',h2,gq,dJ,EW,seval];exact i1
    ·have i1:=hi pre.length ⟨by rw[ht]; simp[AX,h1,hy]; simp at h2; omega,.inr ⟨_,hp,rfl⟩⟩
     simp only[wK,cA,hx',hw,h0,a0,a1,hy,h1,h1',h2,gq,dJ,EW,seval];exact i1
   ·have h1':decide (nw<=e.ae)=false:=by simpa using h1
    have i1:=hi a ⟨by rw[ht]; simp[AX,h1],.inr ⟨_,ha,rfl⟩⟩
    cases h2:decide (e.ae<y.ae) <;>
    simp only[wK,cA,hx',hw,h0,a0,a1,hy,h1,h1',h2,gq,dJ,EW,seval]<;>exact i1
def Tx(hn:n.aK.length<=64)(hnd:(n.aK.map eM.ae).Nodup)(hck:∀e,e∈n.aK->0<=e.ae/\e.ae<1099511627776){m:Nat}(hm:1<=m)(hm':m<=64){F:List eM}{k:List K}
  (hr:∀(out:List eM)(x:Int),out=(if (F.length:Int)<=m then F else F.take m)->x=(if (F.length:Int)<=m then 0 else nc ((F.getD (m-1) Ai).ae+1))->kr (aq dp) [.tmp 8,.tmp 9,.tmp 10] 0 k ⟨.ret,[(8,.slice (.own 2) (out.map gq)),(9,aH x),(10,aH 0)],liM t n out⟩=R) :
  ∀(d:Nat)(nw:Int)(out:List eM),out.length+d=m->out++nn (mX nw n.aK)=F->fP (aq dp) [.tmp 8,.tmp 9,.tmp 10] 0 k (.loop [2,3,11,13] Wu) [(2,aH nw),(3,aH m),(11,dC 1),(13,.slice (.own 2) (out.map gq))] (liM t n out)=R:=by
 intro d;induction d with
 |zero =>
  intro nw out hd hF;rw[cv];have la:=fun {k} hx=>IB (t:=t) (n:=n) (many:=m) (R:=R) aM (nw:=nw) (out:=out) (k:=k) hx
  simp only[wK,EW,seval];refine la (fun z=>?_)
  rcases mD (rF nw n.aK) 0 with hb|hb
  ·have hs:=Jd hb;have h1:(rF nw n.aK<0)=True:=by simpa using hb
   rw[hs,cu] at hF;subst hF;simp only[wK,h1,EW,seval];exact hr out 0 (by rw[av aM]) (by rw[av aM])
  ·obtain⟨e,he,h1,h2,h3⟩:=DL hnd hb;have a0:(rF nw n.aK<0)=False:=by simpa using hb
   have e1:((out.length:Int)==(m:Int))=true:=ic;have w1:IntKind.i64.wrap ((m:Int)-1)=((m-1:Nat):Int):=by rw[gb aM aM]; omega
   have e2:(((m-1:Nat):Int)<(out.length:Int))=True:=x7;have e3:(((m-1:Nat):Int)<0)=False:=dk;have hy:=ai (show m-1<out.length by omega)
   rw[h3] at hF;have cA:¬((F.length:Int)<=m):=by rw[<-hF]; simp; omega
   have hFt:F.take m=out:=by rw[<-hF,gI aM,bS aM]
   have hg:F.getD (m-1) Ai=out[m-1]:=by rw[db,<-hF,bh aM,hy]; rfl
   simp only[wK,a0,e1,w1,e2,e3,hy,gq,dJ,EW,seval];exact hr out _ (by rw[aj cA,hFt]) (by rw[aj cA,hg])
 |succ d ih =>
  intro nw out hd hF;rw[cv];have la:=fun {k} hx=>IB (t:=t) (n:=n) (many:=m) (R:=R) aM (nw:=nw) (out:=out) (k:=k) hx
  simp only[wK,EW,seval];refine la (fun z=>?_)
  rcases mD (rF nw n.aK) 0 with hb|hb
  ·have hs:=Jd hb;have h1:(rF nw n.aK<0)=True:=by simpa using hb
   rw[hs,cu] at hF;subst hF;simp only[wK,h1,EW,seval];exact hr out 0 (by rw[av aM]) (by rw[av aM])
  ·obtain⟨e,he,h1,h2,h3⟩:=DL hnd hb;have a0:(rF nw n.aK<0)=False:=by simpa using hb
   obtain⟨a,ha⟩:∃a:Nat,rF nw n.aK=(a:Int):=⟨(rF nw n.aK).toNat,aM⟩;rw[ha] at he a0 ⊢;rw[bj] at he;have ha':=aJ he;have a1:((a:Int)<(n.aK.length:Int))=True:=x7;have e1:((out.length:Int)==(m:Int))=false:=ic;have r1:dY (out.length+1) 32=True:=xt;have hc:=hck e h2;have w1:IntKind.i64.wrap (e.ae+1)=e.ae+1:=gb aM aM;rw[h3] at hF;have i1:=ih (e.ae+1) (out++[e]) ic (by rw[<-hF]; simp)
   simp only[liM,bH,a8,bE,aR,aD,aF,aN,gq,dJ] at i1 ⊢;simp only[wK,a0,a1,e1,r1,he,w1,gq,dJ,EW,seval];exact i1
end
def J9{t:Tree}{cz:Int->Nat}(h:cF t cz 0)(ar:Int):∀e,e∈(gM t.aa ar).1.aK->0<=e.ae/\e.ae<1099511627776:=by
 have hc:=h.ae;unfold gM;cases hi:find t.aa ar with
 |none=>intro e he; simp[Node.zero] at he
 |some n =>
  simp only;split
  ·intro e he;have:=h.sX _ _ e hi he;omega
  ·intro e he; simp[Node.zero] at he
def akw(t:Tree)(ht:Rt t)(ar z m:Int):aq dp 108 [bD t,aH ar,aH z,aH m] []=some (.tuple [iU (qM t ar z m).1,aH (qM t ar z m).2.1,aH (qM t ar z m).2.2],[]):=by
 refine aw ?_;have qd:=fun M=>Wf t.aa t.next t.ae ar (by have:=ht.sz.aa; omega) M
 obtain⟨cz,h⟩:=ht;obtain⟨hnd,h64⟩:=AB h ar;have hck:=J9 h ar;unfold qM BE;generalize gM t.aa ar=v at qd hnd h64 hck ⊢;cases h1:decide (z<0)
 case true =>
  simp only[C0,wK,bD,aY,h1,dL,aE,EW,seval];rfl
 cases h2:decide (m<1)
 case true =>
  simp only[C0,wK,bD,aY,h1,h2,dL,dz,aE,EW,seval];rfl
 cases h3:decide (64<m)
 case true =>
  simp only[C0,wK,bD,aY,h1,h2,h3,dz,aE,EW,seval];rfl
 cases h4:v.2 != 0
 case true =>
  simp only[C0,wK,bD,aY,bJ,aI,qd,h1,h2,h3,h4,dK,af,aE,aC,EW,seval];rfl
 simp only[eP] at h2 h3;obtain⟨M,rfl⟩:∃M:Nat,m=M:=⟨m.toNat,aM⟩;have g2:decide ((M:Int)<1)=false:=ic;have g3:decide (64<(M:Int))=false:=ic;have lb:=fun {k R} hr=>Tx (t:=t) (n:=v.1) (R:=R) h64 hnd hck (m:=M) aM aM (F:=nn (mX z v.1.aK)) (k:=k) hr M z [] dk rfl
 simp only[liM,bE,aF] at lb;generalize nn (mX z v.1.aK)=F at lb ⊢;simp only[C0,wK,bD,aY,bJ,aI,qd,h1,g2,g3,h4,dK,af,aC,bt,bj,EW,seval];refine lb (fun out x ho hx=>?_)
 subst ho; subst hx;simp only[wK,EW,seval];split<;>rfl
def al3(t:Tree)(ht:Rt t)(ar z m:Int)(M:aO):aL (aq dp) 108 [.agg [aV t.aa,aH t.next,aH t.ae],aH ar,aH z,aH m] M=some (.tuple [iU (qM t ar z m).1,aH (qM t ar z m).2.1,aH (qM t ar z m).2.2],M) :=
 cO (akw t ht ar z m) M
def ako(a b:Bytes):(a != b) = !decide (a=b):=by rw[er]; simp
def W8{a b:List Bytes}(ha:a.length<=100000){k:List K}{R:Bool->Option (ag×aO)}
  (hx:∀e,kr (aq dp) [.tmp 4] 0 k ⟨.exit 0,e,[]⟩=R true) (hr:kr (aq dp) [.tmp 4] 0 k ⟨.ret,[(4,.bool false)],[]⟩=R false) :
  ∀(l m pre pre':List Bytes),a=pre++l->b=pre'++m->pre.length=pre'.length->l.length=m.length->fP (aq dp) [.tmp 4] 0 k (.loop [0,1,12,13] WK) [(0,fX a),(1,fX b),(12,aH a.length),(13,aH pre.length)] []=R (decide (l=m)):=by
 intro l;induction l with
 |nil =>
  intro m pre pre' h h' hp hl;have hm:m=[]:=cf.1 hl.symm;subst hm;rw[cv];simp only[Gc,qX h,EW,seval];exact hx _
 |cons n r ih =>
  intro m pre pre' h h' hp hl;cases m with
  |nil=>cases hl
  |cons n' m =>
  rw[cv];have fx:pre.length+1<=100000:=by rw[h] at ha; simp at ha; omega
  have hw:=Lu pre n;have hi:=ih m (pre++[n]) (pre'++[n']) (by rw[h]; simp) (by rw[h']; simp) (by simp[hp]) (by simpa using hl)
  have ha2:b[pre.length]?=some n':=by rw[hp]; exact lr h'
  have hdc:decide (n::r=n'::m)=(decide (n=n')&&decide (r=m)):=by
   rw[er]; simp
  rw[hdc];simp only[aR,aD,aF] at hi;simp only[Gc,pI h,lr h,ha2,ako,EW,seval];refine bW (fun hb=>?_) (fun hb=>?_)
  ·have hb':decide (n=n')=false:=by simpa using hb
   simp only[Gc,hb',cp,EW,seval];exact hr
  ·have hb':decide (n=n')=true:=by simpa using hb
   simp only[Gc,hb',b9,hw,EW,seval];exact hi
def alg(a b:List Bytes)(ha:a.length<=100000):aq dp 195 [fX a,fX b] []=some (.bool (decide (a=b)),[]):=by
 refine aw ?_;simp only[Y9,Gc,EW,seval];refine bW (fun hb=>?_) (fun hb=>?_)
 ·have:decide (a=b)=false:=by
   simp at hb ⊢;rintro rfl; exact hb rfl
  simp only[Gc,this,EW,seval]
 ·simp only[Gc,EW,seval];exact W8 (R:=fun z=>some (.bool z,[])) ha (fun e=>by simp only[Gc,EW,seval]) (by simp only[Gc,EW,seval]) a b [] [] rfl rfl rfl (by simp at hb; omega)
def amp a b ha:=cP (alg a b ha)
def akM(a b:Bytes)(ha:a.length<=100000)(hb:b.length<=100000):aq fc 130 [.str a,.str b] []=some (.bool (ki a b),[]):=by
 refine aw ?_;have q1:=k63 a ha;have q2:=k63 b hb;have l1:(bI a).1.length<=100000:=by have:=(lV a).2; omega
 have q3:=fun y M=>lS (amp (bI a).1 y l1 M)
 simp only[YI,Px,q1,q2,EW,seval];unfold ki;cases h1:(bI a).2==0
 ·simp only[Px,h1,cp,EW,seval]
 cases h2:(bI b).2==0
 ·simp only[Px,h1,h2,cp,di,b9,EW,seval]
 cases h3:decide (((bI a).1.length:Int)<=(bI b).1.length)
 ·have hp:(bI a).1.isPrefixOf (bI b).1=false:=by
   rw[mO];intro hc;have:=(ji.1 hc).length_le;simp at h3;omega
  simp only[Px,h1,h2,h3,hp,cp,di,b9,EW,seval]
 ·have hp:(bI a).1.isPrefixOf (bI b).1=decide ((bI a).1=(bI b).1.take (bI a).1.length):=by
   rw[er,ji,bt,List.prefix_iff_eq_take]
  have hl:(bI a).1.length<=(bI b).1.length:=by simp at h3; omega
  have q4:∀M,aL (aq fc) 195 [fX (bI a).1,ka (List.take (bI a).1.length (List.map ag.str (bI b).1))] M=some (.bool (decide ((bI a).1=(bI b).1.take (bI a).1.length)),M):=fun M=>by
   rw[<-jC]; exact q3 _ M
  have h4:(((bI a).1.length:Int)<=((bI b).1.length:Int))=True:=by simpa using h3
  simp only[Px,h1,h2,h3,h4,hp,q4,cp,di,b9,EW,seval]
def ahI a b ha hb:=cP (akM a b ha hb)
def akK(s:Bytes)(hs:s.length<=100000):aq fc 127 [.str s] []=some (aH (bI s).2,[]):=by
 refine aw ?_;have q1:=k63 s hs;simp only[YG,ajy,q1,EW,seval]
def Re s hs:=cP (akK s hs)
def Kv(n:Int):Bool:=decide (n>=0)&&decide (n<8)
def akS(n:Int):aq dp 140 [aH n] []=some (.bool (Kv n),[]):=by
 refine aw ?_;unfold Kv;cases h1:decide (n>=0)<;>cases h2:decide (n<8)<;>simp only[YO,ajE,h1,h2,fW,di,b9,cp,EW,seval]
def abH n:=cP (akS n)
def c77(g:Int):aq dp 77 [aH g] []=some (bV [⟨[47],g,1⟩],[]):=by
 refine aw ?_;simp only[ahi,E77,EW,seval];rfl
def lZ(q:Piece->Bool):List Piece->Int->List Int
 | [],_=>[]
 |p::r,i=>if q p then i::lZ q r (i+1) else lZ q r (i+1)
def vI(l:List Int):wid (l.map mr) 1=True:=mo mr _ (fun _=>rfl) l
def akL(p:Piece)(s:Bytes)(hp:p.aQ.length<=100000)(hs:s.length<=100000):aq fc 129 [dy p,dC 0] [cL [.str s]]=some (.bool (ki p.aQ s),[cL [.str s]]):=by
 refine aw ?_;have q1:=ahI p.aQ s hp hs;simp only[YH,ajz,dy,cI,q1,EW,seval]
def TA{xs:List Piece}{s:Bytes}(hn:xs.length<=100000)(hp:∀p,p∈xs->p.aQ.length<=100000)(hs:s.length<=100000){k:List K}{R:List Int->Option (ag×aO)}
  (hx:∀(out:List Int) e,kr (aq fc) [.tmp 4] 1 k ⟨.exit 0,(1,.func 129 [dC 0])::(5,.slice (.own 1) (out.map mr))::e,[cL [.str s],.tick 1 out.length]⟩=R out) :
  ∀(l pre:List Piece)(out:List Int),xs=pre++l->out.length<=pre.length->fP (aq fc) [.tmp 4] 1 k (.loop [1,5,8,9,10] Mp) [(1,.func 129 [dC 0]),(5,.slice (.own 1) (out.map mr)),(8,bV xs),(9,aH xs.length),(10,aH pre.length)] [cL [.str s],.tick 1 out.length] =
   R (out++lZ (fun p=>ki p.aQ s) l pre.length):=by
 intro l;induction l with
 |nil =>
  intro pre out h ho;rw[cv];simp only[Hb,qX h,lZ,cu,EW,seval];exact hx _ _
 |cons p rest ih =>
  intro pre out h ho;rw[cv];have fx:pre.length+1<=100000:=by rw[h] at hn; simp at hn; omega
  have hw:=Lu pre p;have hi1:=ih (pre++[p]) out (by rw[h]; simp) ic
  have hi2:=ih (pre++[p]) (out++[(pre.length:Int)]) (by rw[h]; simp) ic
  simp only[aR,aD,aF,aN,bH,a8,bE] at hi1 hi2;have r1:dY (out.length+1) 8=True:=xt
  have q1:∀M,nth M 0=some (cL [.str s])->aL (aq fc) 129 [.agg (cI p),dC 0] M=some (.bool (ki p.aQ s),M) :=
   fun M hM=>Gl (f:=129) (p:=0) (vs:=[.agg (cI p)]) hM (akL p s (hp p (by rw[h]; simp)) hs) rfl rfl rfl rfl rfl rfl rfl rfl rfl
  simp only[cI] at q1;simp only[lZ];rcases Bool.eq_false_or_eq_true (ki p.aQ s) with he|he<;>simp only[he,Hb,pI h,lr h,dy,cI,q1,hw,r1,vI,xz,aE,af,aC,EW,seval]
  ·simpa[mr] using hi2
  ·simpa using hi1
def agt(xs:List Piece)(s:Bytes)(hn:xs.length<=100000)(hp:∀p,p∈xs->p.aQ.length<=100000)(hs:s.length<=100000):aq fc 128 [bV xs,.func 129 [dC 0]] [cL [.str s]]=some (nv (lZ (fun p=>ki p.aQ s) xs 0),[cL [.str s]]):=by
 refine aw ?_;simp only[L1,Hb,EW,seval];exact TA hn hp hs (R:=fun out=>some (nv out,[cL [.str s]])) (fun out e=>by simp only[Hb,EW,seval]) xs [] [] rfl (ak _)
def alC(p:Piece)(s:Bytes)(hp:p.aQ.length<=100000)(hs:s.length<=100000):aq fc 251 [dy p,dC 0] [cL [.str s]]=some (.bool (ki s p.aQ),[cL [.str s]]):=by
 refine aw ?_;have q1:=ahI s p.aQ hs hp;simp only[Zv,ajZ,dy,cI,q1,EW,seval]
def Tz{xs:List Piece}{s:Bytes}(hn:xs.length<=100000)(hp:∀p,p∈xs->p.aQ.length<=100000)(hs:s.length<=100000){k:List K}{R:List Int->Option (ag×aO)}
  (hx:∀(out:List Int) e,kr (aq fc) [.tmp 4] 1 k ⟨.exit 0,(1,.func 251 [dC 0])::(5,.slice (.own 1) (out.map mr))::e,[cL [.str s],.tick 1 out.length]⟩=R out) :
  ∀(l pre:List Piece)(out:List Int),xs=pre++l->out.length<=pre.length->fP (aq fc) [.tmp 4] 1 k (.loop [1,5,8,9,10] Mp) [(1,.func 251 [dC 0]),(5,.slice (.own 1) (out.map mr)),(8,bV xs),(9,aH xs.length),(10,aH pre.length)] [cL [.str s],.tick 1 out.length] =
   R (out++lZ (fun p=>ki s p.aQ) l pre.length):=by
 intro l;induction l with
 |nil =>
  intro pre out h ho;rw[cv];simp only[Hb,qX h,lZ,cu,EW,seval];exact hx _ _
 |cons p rest ih =>
  intro pre out h ho;rw[cv];have fx:pre.length+1<=100000:=by rw[h] at hn; simp at hn; omega
  have hw:=Lu pre p;have hi1:=ih (pre++[p]) out (by rw[h]; simp) ic
  have hi2:=ih (pre++[p]) (out++[(pre.length:Int)]) (by rw[h]; simp) ic
  simp only[aR,aD,aF,aN,bH,a8,bE] at hi1 hi2;have r1:dY (out.length+1) 8=True:=xt
  have q1:∀M,nth M 0=some (cL [.str s])->aL (aq fc) 251 [.agg (cI p),dC 0] M=some (.bool (ki s p.aQ),M) :=
   fun M hM=>Gl (f:=251) (p:=0) (vs:=[.agg (cI p)]) hM (alC p s (hp p (by rw[h]; simp)) hs) rfl rfl rfl rfl rfl rfl rfl rfl rfl
  simp only[cI] at q1;simp only[lZ];rcases Bool.eq_false_or_eq_true (ki s p.aQ) with he|he<;>simp only[he,Hb,pI h,lr h,dy,cI,q1,hw,r1,vI,xz,aE,af,aC,EW,seval]
  ·simpa[mr] using hi2
  ·simpa using hi1
def ags(xs:List Piece)(s:Bytes)(hn:xs.length<=100000)(hp:∀p,p∈xs->p.aQ.length<=100000)(hs:s.length<=100000):aq fc 128 [bV xs,.func 251 [dC 0]] [cL [.str s]]=some (nv (lZ (fun p=>ki s p.aQ) xs 0),[cL [.str s]]):=by
 refine aw ?_;simp only[L1,Hb,EW,seval];exact Tz hn hp hs (R:=fun out=>some (nv out,[cL [.str s]])) (fun out e=>by simp only[Hb,EW,seval]) xs [] [] rfl (ak _)
end
def MH(s:Bytes):kV [cL [.str s]] (jb [0]) [0]=some [cL [.str s]]:=rfl
def Lz(q:Piece->Bool):∀(l:List Piece)(i:Int),(lZ q l i).length<=l.length
 | [],_=>ak _
 |p::r,i=>by
  have:=Lz q r (i+1);rw[lZ];split<;>simp only[aD]<;>omega
def Ht(s:Bytes):∀(l:List Piece)(i b:Nat),((b:Int)::lZ (fun p=>ki p.aQ s) l i)[(lZ (fun p=>ki p.aQ s) l i).length]?=some ((rC s l i b:Nat):Int)
 | [],i,b=>rfl
 |p::r,i,b=>by
  have h:=fun b=>Ht s r (i+1) b
  simp only[Int.natCast_add,Int.cast_ofNat_Int] at h;rw[lZ,rC]
  by_cases hp:ki p.aQ s=true
  ·rw[av hp,av hp]; exact h i
  ·rw[aj hp,aj hp]; exact h b
section
attribute [local irreducible] fP fm kM gK dH kr aq aL cH bP
def KX(l:List Piece)(s:Bytes):Int×Int:=if (bI s).2=0 then ((dS l s:Nat),0) else (0,(bI s).2)
def aaq{l:List Piece}(hl:kc l){s:Bytes}(hs:(bI s).2=0):0<(lZ (fun p=>ki p.aQ s) l 0).length:=by
 obtain⟨p,r,rfl,hp⟩:=hl.fst;rw[lZ,av (by simp only[hp]; exact Cw hs)]
 simp
def c64{l:List Piece}(hl:kc l)(hp:∀p,p∈l->p.aQ.length<=100000)(s:Bytes)(hs:s.length<=100000):aq fc 64 [bV l,.str s] []=some (.tuple [aH (KX l s).1,aH (KX l s).2],[]):=by
 refine aw ?_;have q1:=Re s hs;have hk:aL (aq fc) 128 [bV l,.func 129 [dC 0]] [cL [.str s]]=some (nv (lZ (fun p=>ki p.aQ s) l 0),[cL [.str s]]):=mS (ids:=[0]) rfl rfl (MH s) rfl rfl (agt l s (by have:=hl.many; omega) hp hs) rfl rfl rfl rfl rfl
 unfold KX
 by_cases h:(bI s).2=0
 ·have h0:=aaq hl h;have h1:=Ht s l 0 0;have h2:(lZ (fun p=>ki p.aQ s) l 0).length<=1000000:=by have:=Lz (fun p=>ki p.aQ s) l 0; have:=hl.many; omega
  have h3:(lZ (fun p=>ki p.aQ s) l 0)[(lZ (fun p=>ki p.aQ s) l 0).length-1]?=some ((dS l s:Nat):Int):=by
   obtain⟨n,hn⟩:∃n,(lZ (fun p=>ki p.aQ s) l 0).length=n+1:=⟨_,(Nat.succ_pred_eq_of_pos h0).symm⟩
   have h4:((0:Nat):Int)=0:=rfl;rw[h4,hn,dX] at h1;rw[hn,Nat.add_sub_cancel]; exact h1
  generalize (lZ (fun p=>ki p.aQ s) l 0)=A at *
  have h5:IntKind.i64.wrap ((A.length:Int)-1)=((A.length-1:Nat):Int):=by rw[gb aM aM]; omega
  have h6:(((A.length-1:Nat):Int)<0)=False:=dk;simp only[abi,E64,q1,h,hk,h3,h5,h6,mr,aE,EW,seval]
 ·have hb:((bI s).2 != 0)=true:=by simpa using h
  simp only[abi,E64,q1,hb,aj h,EW,seval]
def alm(p:Piece)(s:Bytes):aq dp 210 [dy p,.str s] []=some (aH (Lib.compareBytes p.aQ s),[]):=by
 refine aw ?_;have q1:=abG p.aQ s;simp only[Zg,ajQ,dy,cI,q1,EW,seval]
def cS(p:Piece):(dy p).cells=cI p:=rfl
def eI(p:Piece):(cI p).length=3:=rfl
def wJ(p:Piece):List.take 3 (cI p)=cI p:=rfl
def yu(p:Piece):List.map ag.shut (cI p)=cI p:=rfl
def ahS(p:Piece)(s:Bytes)(M:aO):aL (aq dp) 210 [.agg (cI p),.str s] M=some (aH (Lib.compareBytes p.aQ s),M):=cO (alm p s) M
theorem Xa{xs:List Piece}{ar:Bytes}{b:Nat}(hb:Low (fun x=>decide (Lib.compareBytes x.aQ ar<0)) xs b)(hn:xs.length<=100000){k:List K}{r:Option (ag×aO)}
  (hx:∀v q,kr (aq dp) [.tmp 6,.tmp 7] 0 k ⟨.exit 0,[(0,ka (xs.map dy)),(1,.str ar),(2,.func 210 []),(8,aH xs.length),(9,aH b),(10,v),(17,q)],[]⟩=r) :
  ∀(f i j:Nat),j-i<=f->i<=b->b<=j->j<=xs.length->fP (aq dp) [.tmp 6,.tmp 7] 0 k (.loop [0,1,2,8,9,10] WM) [(0,ka (xs.map dy)),(1,.str ar),(2,.func 210 []),(8,aH xs.length),(9,aH i),(10,aH j)] []=r:=by
 intro f;induction f with
 |zero =>
  intro i j h1 h2 h3 h4;obtain rfl:i=b:=aM;rw[cv];have cA:((i:Int)<(j:Int))=False:=kW;simp only[He,cA,EW,seval]
  grind
 |succ f ih =>
  intro i j h1 h2 h3 h4;rw[cv]
  by_cases hij:i<j
  ·have cA:((i:Int)<(j:Int))=True:=kW;obtain⟨m1,m2,m3,m4,m5⟩:=TP i j aM aM;have hmid:(i+j) / 2<xs.length:=aM;have hx:=ai hmid;have hl:=hb.lt _ _ hx;have hk:=fun x:Piece=>ahS x ar []
   simp only[He,cA,m1,m2,m3,m4,hx,hk,cS,eI,wJ,yu,aE,EW,seval];refine bW (fun hq=>?_) (fun hq=>?_)
   ·simp only[He,m5,EW,seval];exact ih ((i+j) / 2+1) j aM (hl.1 hq) h3 h4
   ·simp only[He,EW,seval];exact ih i ((i+j) / 2) aM h2 (Nat.not_lt.1 fun h=>by rw[hl.2 h] at hq; cases hq) aM
  ·obtain rfl:i=b:=aM;have cA:((i:Int)<(j:Int))=False:=ic;simp only[He,cA,EW,seval];exact hx _ _
def alk(xs:List Piece)(ar:Bytes)(b:Nat)(hb:Low (fun x=>decide (Lib.compareBytes x.aQ ar<0)) xs b)(hn:xs.length<=100000):aq dp 209 [bV xs,.str ar,.func 210 []] []=some (.tuple [aH b,.bool (pZ (fun x=>Lib.compareBytes x.aQ ar==0) xs b)],[]):=by
 refine aw ?_;simp only[Zf,He,EW,seval];refine Xa hb hn (fun v q=>?_) xs.length 0 xs.length aM aM hb.le aM
 have hk:=fun x:Piece=>ahS x ar []
 unfold pZ
 by_cases cA:b<xs.length
 ·have hx:=ai cA;have h1:((b:Int)<(xs.length:Int))=True:=ic;simp only[He,hx,h1,hk,cS,eI,wJ,yu,aE,EW,seval]
 ·have hx:xs[b]?=none:=gQ aM;have h1:((b:Int)<(xs.length:Int))=False:=ic;simp only[He,hx,h1,EW,seval]
def ak0(xs:List Piece)(s:Bytes)(b:Nat)(hb:Low (fun x=>decide (Lib.compareBytes x.aQ s<0)) xs b)(hn:xs.length<=100000):aq dp 157 [bV xs,.str s] []=some (.tuple [aH b,.bool (pZ (fun x=>Lib.compareBytes x.aQ s==0) xs b)],[]):=by
 refine aw ?_;have q:∀M,aL (aq dp) 209 [bV xs,.str s,.func 210 []] M=some (.tuple [aH b,.bool (pZ (fun x=>Lib.compareBytes x.aQ s==0) xs b)],M):=fun M=>cO (alk xs s b hb hn) M
 simp only[YV,ajI,q,EW,seval]
def abI xs s b hb hn:=cP (ak0 xs s b hb hn)
end
def rm(l:List Piece)(s:Bytes):Nat:=Mt (fun x=>decide (Lib.compareBytes x.aQ s<0)) l
def vv(p:Piece)(r:List Piece)(s:Bytes):rm (p::r) s=if strLt p.aQ s then rm r s+1 else 0:=by
 unfold rm Mt;have:(decide (Lib.compareBytes p.aQ s<0)=true)=(strLt p.aQ s=true):=by rw[bt]; exact xL p.aQ s
 rw[fu];simp only[this];split<;>rfl
def kc.low{l:List Piece}(h:kc l)(s:Bytes):Low (fun x=>decide (Lib.compareBytes x.aQ s<0)) l (rm l s):=by
 refine TG (h.iW.imp ?_);intro a b hab hb;simp only[bt,xL] at hb ⊢;exact mZ hab hb
def Fc(s:Bytes):∀ {l l':List Piece},l'.map Piece.aQ=l.map Piece.aQ->rm l' s=rm l s
 | [],[],_=>rfl
 | [],_::_,h=>by cases h
 |_::_,[],h=>by cases h
 |p::r,p'::r',h=>by
  simp only[a8] at h;injection h with h1 h2
  rw[vv,vv,h1,Fc s h2]
def Mh(p:Piece):∀l:List Piece,yj l p=l.take (rm l p.aQ)++p::l.drop (rm l p.aQ)
 | []=>rfl
 |q::r=>by
  have ih:=Mh p r;unfold yj at ih ⊢;rw[vv,fu,lH]
  by_cases hq:strLt q.aQ p.aQ=true
  ·rw[av hq,av hq,av hq,oJ,oG,bp,bp,ih]
  ·rw[aj hq,aj hq,aj hq]; rfl
def Xh(l:List Piece)(s:Bytes):rm l s<=l.length:=by
 induction l with
 |nil=>exact ak _
 |cons p r ih =>
  rw[vv];split<;>simp only[aD]<;>omega
def vA(s:Bytes):∀ {l:List Piece},l.Pairwise (fun a b=>strLt a.aQ b.aQ=true)->rJ l s=if pZ (fun x=>Lib.compareBytes x.aQ s==0) l (rm l s)=true then some (rm l s) else none
 | [],_=>rfl
 |p::r,h=>by
  obtain⟨h1,h2⟩:=bR.1 h;have ih:=vA s h2;unfold rJ at ih ⊢;rw[vv,List.findIdx?_cons]
  by_cases hp:strLt p.aQ s=true
  ·have hne:(p.aQ==s)=false:=by
    rw[ck]; rintro rfl; rw[gZ] at hp; cases hp
   rw[hne,aj dk,av hp,ih];have:pZ (fun x=>Lib.compareBytes x.aQ s==0) (p::r) (rm r s+1)=pZ (fun x=>Lib.compareBytes x.aQ s==0) r (rm r s):=by unfold pZ; simp
   rw[this];split<;>rfl
  ·rw[aj hp];have:pZ (fun x=>Lib.compareBytes x.aQ s==0) (p::r) 0=(p.aQ==s):=by unfold pZ; simp only[eu,Gq]
   rw[this]
   by_cases he:(p.aQ==s)=true
   ·rw[av he,av he]
   ·rw[aj he,aj he]
    have hall:∀q,q∈r->(q.aQ==s)=false:=fun q hq=>by
     rw[ck]; rintro rfl; exact hp (h1 q hq)
    rw[List.findIdx?_eq_none_iff.2 hall]; rfl
def Am(q:Piece->Bool):∀(l:List Piece)(i:Int),(lZ q l i).length=l.countP q
 | [],_=>rfl
 |p::r,i=>by
  rw[lZ,List.countP_cons];split<;>simp only[aD,Am q r (i+1)]
  ·omega
end Go.Proofs.YtcbopkblmebjiaaGreatDoor
namespace Go.Abs
open Go
def V9{C:eO}{fn:eX}{d:Nat}{args:List ag}{M:aO}{x:ag×aO}(hl:args.length=fn.nparams)(h:fP C fn.results (M.length+d) [] fn.body (km 0 args) M=some x)(hx:x.2.length=M.length+d):K7 C fn d args M=some x :=
 abB hl (by unfold fP at h; exact h) hx
end Go.Abs
namespace Go.Proofs.YtcbopkblmebjiaaGreatDoor
open Go Go.Abs
def r9(l:List Piece)(b:Nat)(c d:Piece)(o:Nat)(vs:List ag)(h:putCells (dy c) o vs=dy d):jY (l.map dy) b (putCells (dy c) o vs)=(l.set b d).map dy:=by
 rw[h,fJ,jZ]
def Um(c:Piece)(e:Int):putCells (dy c) 2 [aH e]=dy { c with dR:=e }:=rfl
def aiN(c:Piece)(g:Int):putCells (dy c) 1 [aH g]=dy { c with group:=g }:=rfl
def kc.OV{l:List Piece}(h:kc l):∀p,p∈l->p.aQ.length<=100000:=fun p hp=>by
 rw[h.join hp,<-qF];have:=vt (wO p) (Dw p.aQ) (lV p.aQ).2;omega
def sq{l:List Piece}{i:Nat}(h:i<l.length):l[i]?=some (nB l i):=by
 unfold nB; rw[ai h]; rfl
def adU(xs:List ag)(z:Int):kV [cL [aH z],.arr 3 0 xs] (jb [1,0]) [1,0]=some [.arr 3 0 xs,cL [aH z]]:=rfl
section
attribute [local irreducible] fP fm kM gK dH kr aq aL cH bP
def ak1{l:List Piece}{a:Nat}{p:Piece}(h:l[a]?=some p)(z:Int):aq dp 159 [.iI 0 0 a 0,dC 1] [.arr 3 0 (l.map dy),cL [aH z]]=some (.tuple [],[.arr 3 0 ((l.set a { p with dR:=z }).map dy),cL [aH z]]):=by
 refine aw ?_;simp only[YW,ajK,h,cS,eI,ak,aE,r9 l a p _ 2 _ (Um p z),EW,seval]
def ak3{l:List Piece}{a:Nat}{p:Piece}(h:l[a]?=some p)(z:Int)(hz:IntKind.i64.wrap (z+1)=z+1):aq dp 162 [.iI 0 0 a 0,dC 1] [.arr 3 0 (l.map dy),cL [aH z]]=some (.tuple [],[.arr 3 0 ((l.set a { p with dR:=z+1 }).map dy),cL [aH z]]):=by
 refine aw ?_;simp only[YY,ajL,h,hz,cS,eI,ak,aE,r9 l a p _ 2 _ (Um p (z+1)),EW,seval]
def alj{l:List Piece}{a:Nat}{p:Piece}(h:l[a]?=some p)(z:Int)(hz:IntKind.i64.wrap (p.dR+1)=p.dR+1):aq dp 205 [.iI 0 0 a 0,dC 1] [.arr 3 0 (l.map dy),cL [aH z]]=some (.tuple [],[.arr 3 0 ((l.set a ⟨p.aQ,z,p.dR+1⟩).map dy),cL [aH z]]):=by
 refine aw ?_;have ha:=(au.1 h).1;have h2:(l.set a { p with group:=z })[a]?=some { p with group:=z }:=eF ha
 have hc:(dy p).cells[2]?=some (aH p.dR):=rfl;simp only[Zc,ajO,h,h2,hz,cS,eI,cI,ak,aE,r9 l a p _ 1 _ (aiN p z),r9 _ a { p with group:=z } _ 2 _ (Um { p with group:=z } (p.dR+1)),List.set_set,EW,seval]
def Az{g:Nat}{l l':List Piece}{a:Nat}(ha:a<l.length)(hn:l.length<=16)(z:Int)
  (hg:aq dp g [.iI 0 0 a 0,dC 1] [.arr 3 0 (l.map dy),cL [aH z]]=some (.tuple [],[.arr 3 0 (l'.map dy),cL [aH z]])) :
  aq fc 158 [bV l,aH a,.func g [dC 0]] [cL [aH z]]=some (.cY 1 0 3 0 l.length,[cL [aH z],.arr 3 0 (l'.map dy)]):=by
 refine gN (g:=K7 (aq dp) L3 1) rfl (V9 rfl ?_ rfl);have q1:=L9 (f:=145) (sz:=3) (bytes:=32) dy rfl (fun _=>rfl) aM (l:=l) (fun e=>by subst e; simp at ha) aM [cL [aH z]]
 have q2:aL (aq dp) g [.iI 1 0 a 0,dC 0] [cL [aH z],.arr 3 0 (l.map dy)]=some (.tuple [],[cL [aH z],.arr 3 0 (l'.map dy)]):=mS (ids:=[1,0]) rfl rfl (adU _ z) rfl rfl hg rfl rfl rfl rfl rfl;have g1:((a:Int)<((l.length:Nat):Int))=True:=x7;simp only[aD,aF,aN,bp,bw] at q1;simp only[L3,ajJ,q1,q2,g1,cd,ec,bj,aN,aD,aF,EW,seval]
def amw(l:List Piece)(hn:l.length<=16)(hp:∀p,p∈l->p.aQ.length<=100000)(s:Bytes)(hs:s.length<=100000):∃r:List Int,r.length=nj l s/\∀M,aL (aq fc) 225 [bV l,.str s] M=some (nv r,M):=by
 have q1:=Re s hs;have hk:aL (aq fc) 128 [bV l,.func 251 [dC 0]] [cL [.str s]]=some (nv (lZ (fun p=>ki s p.aQ) l 0),[cL [.str s]]):=mS (ids:=[0]) rfl rfl (MH s) rfl rfl (ags l s aM hp hs) rfl rfl rfl rfl rfl
 by_cases h:(bI s).2=0
 ·refine⟨lZ (fun p=>ki s p.aQ) l 0,Am _ _ _,fun M=>cO (aw ?_) M⟩
  simp only[QQ,aeE,q1,h,hk,EW,seval]
 ·have hb:((bI s).2 != 0)=true:=by simpa using h
  refine⟨[],?_,fun M=>cO (aw ?_) M⟩
  ·refine(List.countP_eq_zero.2 fun p _ ha=>h (o9.1 ha).1).symm
  ·simp only[QQ,aeE,q1,hb,aE,EW,seval];rfl
def k64{l:List Piece}(hl:kc l)(s:Bytes)(hs:s.length<=100000)(M:aO):aL (aq fc) 64 [bV l,.str s] M=some (.tuple [aH (KX l s).1,aH (KX l s).2],M) :=
 cO (c64 hl hl.OV s hs) M
def wr1{e:Int}(h1:1<=e)(h2:e<=1099511627776):IntKind.i64.wrap (e+1)=e+1:=gb aM aM
def c91{l:List Piece}(hl:kc l)(s:Bytes)(hs:s.length<=100000)(to:Int):aq fc 91 [bV l,.str s,aH to] []=some (.tuple [bV (vi l s to).1,aH (vi l s to).2],[]):=by
 refine aw ?_;have hm:=hl.many;have q1:=fun M=>lS (abH to M)
 have q2:=k64 hl s hs;have q3:=fun M=>lS (abI l s (rm l s) (hl.low s) aM M)
 have hgb:Kv to=nU to:=rfl;rw[hgb] at q1;unfold vi;rw[vA s hl.iW];unfold KX at q2;cases hg:nU to<;>rw[hg] at q1
 ·simp only[HZ,E91,q1,aE,EW,seval]
 simp only[Bool.true_eq_false,aC]
 by_cases he:(bI s).2=0
 ·have cA:=hl.uH he;have hok:=(hl.ok _ (qQ cA)).2;rw[av he] at q2;have hb:((bI s).2 != 0)=false:=by simp[he]
  simp only[hb,af,aC];cases hi:pZ (fun x=>Lib.compareBytes x.aQ s==0) l (rm l s)<;>rw[hi] at q3
  ·simp only[af,aC];have hx:=sq cA;cases h1:decide ((16:Int)<=l.length)
   ·cases h2:decide (1099511627776<=(nB l (dS l s)).dR)
    ·have hne:l≠[]:=fun e=>by subst e; simp at cA
     have h2':¬1099511627776<=(nB l (dS l s)).dR:=by simpa using h2
     have hw:=wr1 hok.2.2.1 hok.2.2.2;have hc:=Az (g:=159) cA hm ((nB l (dS l s)).dR+1) (ak1 hx _);have hbl:(nu l (dS l s) ((nB l (dS l s)).dR+1)).length=l.length:=by simp[nu]
     have hlow:rm (nu l (dS l s) ((nB l (dS l s)).dR+1)) s=rm l s:=Fc s (xI _ _ _);have hle:=Xh l s;have hb2:l.set (dS l s) { nB l (dS l s) with dR:=(nB l (dS l s)).dR+1 }=nu l (dS l s) ((nB l (dS l s)).dR+1):=rfl
     rw[hb2] at hc;have hI:=lS' (QY (f:=160) (sz:=3) (bytes:=32) dy rfl aM (l:=nu l (dS l s) ((nB l (dS l s)).dR+1)) (b:=rm l s) (id:=1) (v:=0) aM aM (.agg [.str s,aH to,aH ((nB l (dS l s)).dR+1)]) rfl [cL [aH ((nB l (dS l s)).dR+1)],.arr 3 0 ((nu l (dS l s) ((nB l (dS l s)).dR+1)).map dy)] rfl);rw[hbl] at hI;have hT:=Wa dy (l:=nu l (dS l s) ((nB l (dS l s)).dR+1)) (b:=rm l s) aM ⟨s,to,(nB l (dS l s)).dR+1⟩;rw[hbl] at hT;have hins:=Mh ⟨s,to,(nB l (dS l s)).dR+1⟩ (nu l (dS l s) ((nB l (dS l s)).dR+1));simp only at hins;rw[hlow] at hins;rw[<-hins] at hT;simp only[dy,cI] at hT;have g0:(((dS l s:Nat):Int)<0)=False:=dk;generalize nu l (dS l s) ((nB l (dS l s)).dR+1)=B at hc hI hT hins ⊢;simp only[HZ,E91,q1,q2,q3,h1,h2,hx,hw,hc,hI,hT,g0,cS,eI,cI,bj,dK,af,aC,aE,EW,seval]
    ·have g0:(((dS l s:Nat):Int)<0)=False:=dk;simp only[HZ,E91,q1,q2,q3,h1,h2,hx,g0,cS,eI,cI,bj,dz,af,aC,aE,EW,seval]
   ·simp only[HZ,E91,q1,q2,q3,h1,dL,af,aC,aE,EW,seval]
  ·simp only[HZ,E91,q1,q2,q3,aE,EW,seval]
 ·have hb:((bI s).2 != 0)=true:=by simpa using he
  rw[aj he] at q2;simp only[HZ,E91,q1,q2,hb,aE,EW,seval]
end
end Go.Proofs.YtcbopkblmebjiaaGreatDoor
namespace Go.Proofs.YtcbopkblmebjiaaGreatDoor
open Go Go.Abs
def TJ(a b:Int):(if a<b then b else a)=max a b:=by
 rw[Int.max_def]
 by_cases h:a<b
 ·rw[av h,av aM]
 ·rw[aj h];split
  ·omega
  ·rfl
def Mm{s:Bytes}(h:(bI s).2=0)(hne:s≠[47]):(bI (gh s).2.1).2=0:=by
 obtain⟨h1,h2⟩:=lV s;unfold gh
 have hl:(bI s).1≠[]:=fun e=>hne (by
  have:bI s=([],0):=ig e h;rw[xR this]; rfl)
 have h0:(((bI s).1.length:Int)==0)=false:=by
  rw[ck]; intro e;exact hl (cf.1 aM)
 rw[aj (by simp[h,h0])]
 simp only;rw[qF,lg (fun x hx=>h1 x (cR hx)) ic]
section
attribute [local irreducible] fP fm kM gK dH kr aq aL cH bP
def E0{l:List Piece}(hl:kc l){s:Bytes}(hi:pZ (fun x=>Lib.compareBytes x.aQ s==0) l (rm l s)=true):rJ l s=some (rm l s):=by rw[vA s hl.iW,av hi]
def akV{l:List Piece}(hl:kc l)(s:Bytes)(hs:s.length<=100000)(to:Int):aq fc 150 [bV l,.str s,aH to] []=some (.tuple [bV (nV l s to).1,aH (nV l s to).2],[]):=by
 refine aw ?_;have hm:=hl.many;have q1:=fun M=>lS (abH to M)
 have q2:=Re s hs;have q3:=fun M=>lS (abI l s (rm l s) (hl.low s) aM M)
 have hgb:Kv to=nU to:=rfl;rw[hgb] at q1;have hso:=fun hi=>E0 hl (s:=s) hi
 unfold nV;rw[vA s hl.iW];cases hg:nU to<;>rw[hg] at q1
 ·simp only[C1,PB,q1,aE,EW,seval]
 simp only[Bool.true_eq_false,aC];cases hb:(bI s).2 != 0
 ·simp only[af,aC];cases hi:pZ (fun x=>Lib.compareBytes x.aQ s==0) l (rm l s)<;>rw[hi] at q3
  ·simp only[C1,PB,q1,q2,q3,hb,af,aC,EW,seval]
  ·obtain⟨p,hx,hps⟩:=pK (hso hi);have cA:=(au.1 hx).1;have hat:nB l (rm l s)=p:=by unfold nB; rw[hx]; rfl
   have hok:=(hl.ok _ (aU hx)).2;simp only[aE,hat];have g0:(((rm l s:Nat):Int)<0)=False:=dk;cases h2:decide (1099511627776<=p.dR)
   ·have h2':¬1099511627776<=p.dR:=by simpa using h2
    have hc:=Az (g:=205) cA hm to (alj hx to (wr1 hok.2.2.1 hok.2.2.2));have hT:List.take l.length ((l.set (rm l s) ⟨p.aQ,to,p.dR+1⟩).map dy)=(l.set (rm l s) ⟨s,to,p.dR+1⟩).map dy:=by rw[hps]; exact bS dk
    rw[aj h2'];simp only[C1,PB,q1,q2,q3,hb,h2,hx,hc,hT,g0,cS,eI,cI,bj,af,aC,aE,EW,seval]
   ·have h2':1099511627776<=p.dR:=by simpa using h2
    rw[av h2'];simp only[C1,PB,q1,q2,q3,hb,h2,hx,g0,cS,eI,cI,bj,af,aC,aE,EW,seval]
 ·simp only[C1,PB,q1,q2,hb,aE,af,aC,EW,seval]
def c93{l:List Piece}(hl:kc l)(s:Bytes)(hs:s.length<=100000):aq fc 93 [bV l,.str s] []=some (.tuple [bV (mW l s).1,aH (mW l s).2],[]):=by
 refine aw ?_;have hm:=hl.many;have q2:=Re s hs;have q3:=fun M=>lS (abI l s (rm l s) (hl.low s) aM M)
 have q4:=abJ s hs;have q5:=k64 hl (gh s).2.1 (by have:=tM s hs; omega)
 have hso:=fun hi=>E0 hl (s:=s) hi
 unfold mW;rw[vA s hl.iW];cases hb:(bI s).2 != 0
 rotate_left
 ·simp only[Ks,E93,q2,hb,aE,EW,seval]
 have hs0:(bI s).2=0:=by simpa using hb
 simp only[af,aC];cases hi:pZ (fun x=>Lib.compareBytes x.aQ s==0) l (rm l s)<;>rw[hi] at q3
 ·simp only[Ks,E93,q2,q3,hb,af,aC,EW,seval]
 obtain⟨p,hx,hps⟩:=pK (hso hi);have cA:=(au.1 hx).1;generalize rm l s=b at q3 hx cA ⊢;cases b with
 |zero =>
  simp only[Ks,E93,q2,q3,hb,gu,aE,af,aC,EW,seval]
 |succ a =>
  have hne:s≠[47]:=fun e=>by
   obtain⟨p0,r,e0,h0⟩:=hl.fst;have:=hl.only (i:=a+1) (j:=0) hx (by rw[e0]; rfl) (by rw[hps,h0,e])
   omega
  have hlast:=Mm hs0 hne;have hpar:=hl.uH hlast;unfold KX at q5;rw[av hlast] at q5;have hy:=sq hpar;have hok:=(hl.ok _ (aU hx)).2;have hok2:=(hl.ok _ (qQ hpar)).2;have hat:nB l (a+1)=p:=by unfold nB; rw[hx]; rfl
  simp only[aE,hat];have g1:(((a+1:Nat):Int)==0)=false:=by rw[ck]; omega
  have g2:(((a+1:Nat):Int)<0)=False:=GV;generalize dS l (gh s).2.1=c at *;have g3:(((c:Nat):Int)<0)=False:=dk;have g4:IntKind.i64.wrap (((a+1:Nat):Int)+1)=((a+1+1:Nat):Int):=by rw[gb aM aM]; omega
  generalize he:max p.dR (nB l c).dR=e;have he2:=TJ p.dR (nB l c).dR;rw[he] at he2;have hle:1<=e/\e<=1099511627776:=by rw[<-he,Int.max_def]; split<;>omega
  cases h2:decide (1099511627776<=e)
  ·have h2':¬1099511627776<=e:=by simpa using h2
   have hc:=Az (g:=162) hpar hm e (ak3 hy e (wr1 hle.1 hle.2));have hb2:l.set c { nB l c with dR:=e+1 }=nu l c (e+1):=rfl
   rw[hb2] at hc;have hbl:(nu l c (e+1)).length=l.length:=by simp[nu]
   have hD:=lS' (QX (f:=163) (sz:=3) dy rfl (l:=nu l c (e+1)) (b:=a+1) (id:=1) (v:=0) aM aM [cL [aH e],.arr 3 0 ((nu l c (e+1)).map dy)] rfl);have hT:=VH dy (l:=nu l c (e+1)) (b:=a+1) aM;rw[hbl] at hD hT;rw[aj h2'];generalize nu l c (e+1)=B at hc hD hT ⊢;simp only[Ks,E93,q2,q3,q4,q5,hb,h2,hx,hy,g1,g2,g3,g4,he2,hc,hD,hT,cS,eI,cI,bj,af,aC,aE,EW,seval]
  ·have h2':1099511627776<=e:=by simpa using h2
   rw[av h2'];simp only[Ks,E93,q2,q3,q4,q5,hb,h2,hx,hy,g1,g2,g3,he2,cS,eI,cI,bj,af,aC,aE,EW,seval]
end
def K9(s:Bytes):List Piece->Nat->Int
 | [],_ => -1
 |p::r,i=>if p.aQ==s then (i:Int) else K9 s r (i+1)
def Cl(s:Bytes):∀(l:List Piece)(i:Nat),K9 s l i=match rJ l s with
  |some a=>((i+a:Nat):Int)
  |none => -1
 | [],i=>rfl
 |p::r,i=>by
  have ih:=Cl s r (i+1);unfold rJ at ih ⊢;rw[K9,List.findIdx?_cons];split
  ·rfl
  ·rw[ih];cases r.findIdx? fun p=>p.aQ==s with
   |none=>rfl
   |some a=>exact congrArg (fun n:Nat=>(n:Int)) (show i+1+a=i+(a+1) by omega)
section
attribute [local irreducible] fP fm kM gK dH kr aq aL cH bP
def Ig(s:Bytes)(hs:s.length<=100000)(M:aO):aL (aq dp) 67 [.str s] M=some (.tuple [fX (bI s).1,aH (bI s).2],M):=by
 rw[<-uB]; exact k67 s hs M
def k68(a b:Bytes)(ha:a.length<=100000)(hb:b.length<=100000)(M:aO):aL (aq dp) 68 [.str a,.str b] M=some (.bool (ki a b),M):=by
 refine cO (aw ?_) M;have q1:=Ig a ha;have q2:=Ig b hb;unfold ki;have hx1:=(lV a).2;generalize bI a=x at q1 hx1 ⊢;generalize bI b=y at q2 ⊢;obtain⟨x,e⟩:=x;obtain⟨y,e'⟩:=y;simp only at q1 q2 hx1 ⊢;cases h1:e==0
 ·have h1':(e != 0)=true:=by simpa using h1
  simp only[QS,E68,q1,q2,h1',cp,EW,seval]
 have h1':(e != 0)=false:=by simpa using h1
 cases h2:e'==0
 ·have h2':(e' != 0)=true:=by simpa using h2
  simp only[QS,E68,q1,q2,h1',h2',cp,di,EW,seval]
 have h2':(e' != 0)=false:=by simpa using h2
 by_cases h3:y.length<x.length
 ·have h3':((y.length:Int)<(x.length:Int))=True:=x7
  have hp:x.isPrefixOf y=false:=by
   rw[mO]; intro hc;have:=(ji.1 hc).length_le;omega
  simp only[QS,E68,q1,q2,h1',h2',h3',hp,az,di,EW,seval]
 ·have h3':((y.length:Int)<(x.length:Int))=False:=GV;simp only[QS,E68,q1,q2,h1',h2',h3',az,b9,EW,seval];refine gV (xs:=x) aM (fun i (ys:List Bytes)=>ys=y.drop i) (fun post ys=>post.isPrefixOf ys) (fun _ i=>[(5,fX x),(7,fX y),(9,aH i)]) (fun _=>[]) (fun b=>some (ag.bool b,([]:aO))) (fun ys hy=>?_) (fun pre z post ys hh hz cA hw h0 hm hy hi=>?_) y rfl
  ·simp only[E68,az,aX,List.isPrefixOf,EW,seval]
  ·have hl:pre.length<y.length:=by have:=congrArg List.length hh; simp at this; omega
   have hy2:=ai hl;have hys:ys=y[pre.length]::y.drop (pre.length+1):=by rw[hy]; exact(cN hl)
   subst hys;have i1:=hi (y.drop (pre.length+1)) rfl;rw[List.isPrefixOf];cases hc:z==y[pre.length]
   ·have hc':(z != y[pre.length])=true:=by simpa using hc
    simp only[E68,az,cA,hz,hy2,hw,h0,hc',cp,EW,seval]
   ·have hc':(z != y[pre.length])=false:=by simpa using hc
    simp only[b9];simp only[E68,az,cA,hz,hy2,hw,h0,hc',EW,seval];exact i1
def abK(l:List Piece)(hn:l.length<=1000)(s:Bytes)(M:aO):aL (aq dp) 206 [bV l,.str s] M=some (aH (K9 s l 0),M):=by
 refine cO (aw ?_) M;simp only[Zd,Va,EW,seval];refine gV (xs:=l) aM (fun i (k:Nat)=>k=i) (fun post k=>K9 s post k) (fun _ i=>[(0,bV l),(1,.str s),(5,aH i)]) (fun _=>[]) (fun z=>some (aH z,([]:aO))) (fun k hk=>?_) (fun pre x post k hh hx cA hw h0 hm hk hi=>?_) 0 rfl
 ·simp only[Va,az,aX,K9,EW,seval]
 ·subst hk;have i1:=hi (pre.length+1) rfl;rw[K9];cases hc:x.aQ==s
  ·simp only[af,aC];simp only[Va,az,cA,hx,hw,h0,hc,cS,eI,cI,EW,seval];exact i1
  ·simp only[Va,az,cA,hx,hw,h0,hc,cS,eI,cI,aE,EW,seval]
def k25{l:List Piece}(hl:kc l)(s:Bytes)(hs:s.length<=100000)(M:aO):aL (aq dp) 25 [bV l,.str s] M=some (.tuple [aH (KX l s).1,aH (KX l s).2],M):=by
 refine cO (aw ?_) M;have q1:=Ig s hs;have hm:=hl.many;unfold KX
 by_cases he:(bI s).2=0
 rotate_left
 ·have h60:(bI s).2=60:=by rcases wu s with h|h<;>rw[h] at he ⊢; exact absurd rfl he
  have hb:((bI s).2 != 0)=true:=by simpa using he
  rw[aj he];simp only[aba,E25,q1,hb,h60,EW,seval]
 rw[av he];have hof:=KW hl he;unfold ofD at hof;rw[aj (by rw[uB]; simp[he])] at hof
 injection hof with hof _
 rw[<-hof];have hb:((bI s).2 != 0)=false:=by simp[he]
 obtain⟨p0,r0,hl0,_⟩:=hl.fst;have hpos:0<l.length:=by rw[hl0]; simp
 simp only[aba,E25,q1,hb,EW,seval];refine gV (xs:=l) aM (fun i (b:Nat×Nat)=>b.1=i/\b.2<l.length) (fun post b=>yH l s post b.1 b.2) (fun b i=>[(0,bV l),(1,.str s),(8,aH b.2),(9,aH i)]) (fun _=>[]) (fun(z:Nat)=>some (ag.tuple [aH z,aH 0],([]:aO))) (fun b hb=>?_) (fun pre x post b hh hx cA hw h0 hm hb hi=>?_) (0,0) ⟨rfl,hpos⟩
 ·simp only[E25,az,aX,yH,EW,seval]
 ·obtain⟨i,b⟩:=b;obtain⟨hb1,hb2⟩:=hb;simp only at hb1 hb2;subst hb1;have q2:=k68 x.aQ s (hl.OV x hm) hs;have hy:=sq hb2;have hlt':pre.length<l.length:=by have:=congrArg List.length hh; simp at this; omega
  rw[yH];have hab:Vm x.aQ s=ki x.aQ s:=Ly _ _;rw[hab];have g0:((b:Int)<0)=False:=dk;cases hc:ki x.aQ s<;>rw[hc] at q2
  ·have i1:=hi (pre.length+1,b) ⟨rfl,hb2⟩;simp only[cp,af,aC];simp only[E25,az,cA,hx,hw,h0,q2,cS,eI,cI,EW,seval];exact i1
  ·cases hd:decide (((nB l b).aQ.length:Int)<=x.aQ.length)
   ·have i1:=hi (pre.length+1,b) ⟨rfl,hb2⟩;simp only[b9,af,aC];simp only[E25,az,cA,hx,hw,h0,q2,hy,g0,hd,cS,eI,cI,bj,EW,seval];exact i1
   ·have i1:=hi (pre.length+1,pre.length) ⟨rfl,hlt'⟩;simp only[b9,aE];simp only[E25,az,cA,hx,hw,h0,q2,hy,g0,hd,cS,eI,cI,bj,EW,seval];exact i1
def ahQ{l:List Piece}(hl:kc l)(s:Bytes)(hs:s.length<=100000):∃r:List Int,r.length=nj l s/\∀M,aL (aq dp) 208 [bV l,.str s] M=some (nv r,M):=by
 have q1:=Ig s hs;have hm:=hl.many
 by_cases he:(bI s).2=0
 ·refine⟨lZ (fun p=>ki s p.aQ) l 0,Am _ _ _,fun M=>cO (aw ?_) M⟩
  simp only[L5,JA,q1,he,vz,wi,EW,seval];refine gV (xs:=l) aM (fun i (b:Int×List Int)=>b.1=(i:Int)/\b.2.length<=i) (fun post b=>b.2++lZ (fun p=>ki s p.aQ) post b.1) (fun b i=>[(0,bV l),(1,.str s),(5,.slice (.own 0) (b.2.map mr)),(7,aH 0),(8,aH i)]) (fun b=>[.tick 1 b.2.length]) (fun r=>some (nv r,[])) (fun b hb=>?_) (fun pre x post b hh hx cA hw h0 hm hb hi=>?_) (0,[]) ⟨rfl,ak _⟩
  ·simp only[JA,az,aX,lZ,cu,EW,seval]
  ·obtain⟨i,out⟩:=b;obtain⟨hb1,hb2⟩:=hb;simp only at hb1 hb2;subst hb1;have hlt':pre.length<l.length:=by have:=congrArg List.length hh; simp at this; omega
   have q2:=k68 s x.aQ hs (hl.OV x hm);have r1:dY (out.length+1) 8=True:=xt;rw[lZ];cases hc:ki s x.aQ<;>rw[hc] at q2
   ·have i1:=hi ((pre.length:Int)+1,out) ⟨dk,by simp only; omega⟩
    simp only[af,aC];simp only[JA,az,cA,hx,hw,h0,q2,cS,eI,cI,BEq.rfl,EW,seval];exact i1
   ·have i1:=hi ((pre.length:Int)+1,out++[(pre.length:Int)]) ⟨dk,ic⟩;simp only[bH,a8,bE,aR,aD,aF,aN,dW,bp,bw] at i1;simp only[aE];simp only[JA,az,cA,hx,hw,h0,q2,r1,vI,cS,eI,cI,BEq.rfl,EW,seval];exact i1
 ·have hb:((bI s).2==0)=false:=by simpa using he
  refine⟨[],(List.countP_eq_zero.2 fun p _ ha=>he (o9.1 ha).1).symm,fun M=>cO (aw ?_) M⟩
  simp only[L5,JA,q1,vz,wi,EW,seval];rw[cv]
  by_cases hp:(0:Int)<l.length
  ·simp only[JA,az,hp,hb,EW,seval];rfl
  ·simp only[JA,az,hp,hb,EW,seval];rfl
def k29(g:Int)(M:aO):aL (aq dp) 29 [aH g] M=some (bV (sI g),M):=by
 refine cO (aw ?_) M;simp only[agV,E29,EW,seval];rfl
def Jm(l:List Piece):wid (l.map dy) 3=True:=mo dy _ (fun _=>rfl) l
def alW(a b:Bytes):(!(strLt a b||a==b))=strLt b a:=by
 rcases oA a b with h|h|h
 ·rw[h,pN h]; rfl
 ·subst h; simp[gZ]
 ·have hne:(a==b)=false:=by rw[ck]; rintro rfl; rw[gZ] at h; cases h
  rw[h,pN h,hne]; rfl
def VF(p:Piece)(own:Nat)(s:Nat×List Piece×Bool)(x:Piece):(nH p own s x).2.1.length<=s.2.1.length+2:=by
 unfold nH;simp only;split<;>simp
def akW{l:List Piece}(hl:kc l)(s:Bytes)(hs:s.length<=100000)(to:Int):aq dp 151 [bV l,.str s,aH to] []=some (.tuple [bV (vi l s to).1,aH (vi l s to).2],[]):=by
 refine aw ?_;have hm:=hl.many;have q1:=k25 hl s hs;have q2:=abK l aM s;rw[Cl] at q2;unfold vi;unfold KX at q1
 by_cases hg1:0<=to
 rotate_left
 ·have e:nU to=false:=by simp[nU]; intro h; exact absurd h hg1
  have e1:(to<0)=True:=x7;rw[av e];simp only[zH,D2,e1,EW,seval]
 have e1:(to<0)=False:=GV
 by_cases hg2:to<8
 rotate_left
 ·have e:nU to=false:=by simp[nU]; intro h; omega
  have e2:(8<=to)=True:=x7;rw[av e];simp only[zH,D2,e1,e2,EW,seval]
 have e2:(8<=to)=False:=GV;have e:nU to=true:=by simp[nU,hg1,hg2]
 rw[aj (by simp[e])]
 by_cases he:(bI s).2=0
 rotate_left
 ·have hb:((bI s).2 != 0)=true:=by simpa using he
  rw[aj he] at q1;rw[av hb];simp only[zH,D2,e1,e2,q1,hb,EW,seval]
 have hb:((bI s).2 != 0)=false:=by simp[he]
 rw[av he] at q1;rw[aj (by simp[hb])]
 have cA:=hl.uH he;have hx0:=sq cA;have hok:=(hl.ok _ (qQ cA)).2;have hrow:=fun p hn he=>NG (p:=p) hl hn he cA
 generalize dS l s=own at *;have g0:(((own:Nat):Int)<0)=False:=dk;cases hp:rJ l s with
 |some a =>
  rw[hp] at q2;have g1:((0:Int)<=((0+a:Nat):Int))=True:=dk;simp only at q2 ⊢;simp only[zH,D2,e1,e2,q1,q2,g1,an,EW,seval]
 |none =>
  rw[hp] at q2;have hne:=DF hp;simp only at q2 ⊢;cases h1:decide ((16:Int)<=l.length)
  rotate_left
  ·simp only[zH,D2,e1,e2,q1,q2,h1,an,az,dL,aE,EW,seval]
  cases h2:decide (1099511627776<=(nB l own).dR)
  rotate_left
  ·simp only[zH,D2,e1,e2,q1,q2,h1,h2,hx0,g0,cS,eI,cI,bj,an,az,dz,aE,EW,seval]
  have h2':(nB l own).dR<1099511627776:=by simpa using h2
  have hw1:=wr1 hok.2.2.1 hok.2.2.2;rw[<-hrow ⟨s,to,(nB l own).dR+1⟩ hne h2'];simp only[zH,D2,e1,e2,q1,q2,h1,h2,hx0,g0,hw1,vz,wi,cS,eI,cI,bj,an,az,dK,af,aC,EW,seval];generalize (nB l own).dR+1=ep;unfold Qc
  refine gV (xs:=l) aM (fun i (S:Nat×List Piece×Bool)=>S.1=i/\S.2.1.length<=2*i) (fun post S=>post.foldl (nH ⟨s,to,ep⟩ own) S) (fun S i=>[(0,bV l),(1,.str s),(8,aH own),(10,dC 0),(11,.slice (.own 1) (S.2.1.map dy)),(12,.bool S.2.2),(13,aH i)])
   (fun S=>[cL [.str s,aH to,aH ep],.tick 3 S.2.1.length]) (fun S=>some (ag.tuple [bV (if S.2.2 then S.2.1 else S.2.1++[⟨s,to,ep⟩]),aH 0],([]:aO))) (fun S hS=>?_) (fun pre x post S hh hx cA hw hz hmm hS hi=>?_) (0,[],false) ⟨rfl,ak _⟩
  ·obtain⟨i,out,done⟩:=S;obtain⟨_,hS⟩:=hS;simp only at hS;have r1:dY (out.length+1) 32=True:=xt;cases done
   ·simp only[D2,az,aX,r1,ia,af,aC,Jm,EW,seval];simp only[bV,bH,a8,bE];rfl
   ·simp only[D2,az,aX,ia,aE,EW,seval]
  ·obtain⟨i,out,done⟩:=S;obtain⟨hS1,hS⟩:=hS;simp only at hS1 hS;subst hS1;have hlt':pre.length<l.length:=by have:=congrArg List.length hh; simp at this; omega
   have i1:=hi (nH ⟨s,to,ep⟩ own (pre.length,out,done) x) ⟨rfl,by have:=VF ⟨s,to,ep⟩ own (pre.length,out,done) x; simp only at this; omega⟩
   rw[bB];generalize hY:post.foldl (nH ⟨s,to,ep⟩ own) (nH ⟨s,to,ep⟩ own (pre.length,out,done) x)=Y at i1 ⊢;have r1:dY (out.length+1) 32=True:=xt;have r2:dY (out.length+1+1) 32=True:=xt;have hwP:=Jm out;have hwQ:wid (List.map dy out++[.agg [.str s,aH to,aH ep]]) 3=True:=by have:=Jm (out++[⟨s,to,ep⟩]); rw[bH] at this; exact this
   have hgt:=alW x.aQ s;unfold nH at i1
   cases done<;>cases hc:strLt s x.aQ<;>cases ho:((pre.length:Nat):Int)==(own:Int) <;>
    (first|(have ho2:(pre.length=own)=True:=eq_true (by (have:=ho; simp at this; omega)))|(have ho2:(pre.length=own)=False:=eq_false (by (have:=ho; simp at this; omega)))) <;>
    simp only[hc,ho2,aE,aC,cG,dG,cp,b9,fW,di,dL,dE,dK,dz,fE,af,bH,a8,bE,aR,aD,aF,aN,dy,cI,nc] at i1 <;>
    simp only[D2,az,cA,hx,hw,hz,hgt,hc,ho,r1,r2,hwP,hwQ,cS,eI,cI,EW,seval]<;>exact i1
def Tn(s:Bytes):E5 s=gh s:=by
 unfold E5 gh;rw[uB];split
 ·rfl
 ·rename_i h;refine ig ?_ (ig ?_ rfl)
  ·simp only[db,List.getLast?_eq_getElem?]
  ·simp only[zM,qF,List.dropLast_eq_take]
def Rb(s:Bytes)(hs:s.length<=100000)(M:aO):aL (aq dp) 109 [.str s] M=some (.tuple [.str (gh s).1,.str (gh s).2.1,aH (gh s).2.2],M):=by
 rw[<-Tn]; exact al4 s hs M
def Og(par at':Nat)(e:Int)(s:Nat×List Piece)(x:Piece):(qK par at' e s x).2.length<=s.2.length+1:=by
 unfold qK;simp only;split<;>simp
def akX{l:List Piece}(hl:kc l)(s:Bytes)(hs:s.length<=100000):aq dp 152 [bV l,.str s] []=some (.tuple [bV (mW l s).1,aH (mW l s).2],[]):=by
 refine aw ?_;have hm:=hl.many;have q1:=Ig s hs;have q2:=abK l aM s;rw[Cl] at q2;have q3:=Rb s hs;have q4:=k25 hl (gh s).2.1 (by have:=tM s hs; omega)
 unfold mW
 by_cases he:(bI s).2=0
 rotate_left
 ·have h60:(bI s).2=60:=by rcases wu s with h|h<;>rw[h] at he ⊢; exact absurd rfl he
  have hb:((bI s).2 != 0)=true:=by simpa using he
  rw[av hb,h60];simp only[C2,Ju,q1,hb,EW,seval]
 have hb:((bI s).2 != 0)=false:=by simp[he]
 rw[aj (by simp[hb])]
 cases hp:rJ l s with
 |none =>
  rw[hp] at q2;simp only at q2 ⊢;simp only[C2,Ju,q1,q2,hb,Int.reduceLT,Int.reduceNeg,EW,seval]
 |some b =>
  rw[hp] at q2;obtain⟨p,hx,hps⟩:=pK hp;have g1:((b:Int)<0)=False:=GV;simp only[aN] at q2;cases b with
  |zero =>
   have h47:(s==[47])=true:=by
    obtain⟨p0,r,e0,h0⟩:=hl.fst;rw[e0] at hx; cases hx;rw[<-hps,h0]; rfl
   simp only;simp only[C2,Ju,q1,q2,hb,g1,h47,EW,seval]
  |succ a =>
   have hne:s≠[47]:=fun e=>by
    obtain⟨p0,r,e0,h0⟩:=hl.fst;have:=hl.only (i:=a+1) (j:=0) hx (by rw[e0]; rfl) (by rw[hps,h0,e])
    omega
   have h47:(s==[47])=false:=by rw[ck]; exact hne
   have hlast:=Mm he hne;have hpar:=hl.uH hlast;unfold KX at q4;rw[av hlast] at q4;have hy:=sq hpar;have hok:=(hl.ok _ (aU hx)).2;have hok2:=(hl.ok _ (qQ hpar)).2;have hat:nB l (a+1)=p:=by unfold nB; rw[hx]; rfl
   have hrow:=fun e=>KB l (dS l (gh s).2.1) (a+1) e
   simp only[hat];generalize dS l (gh s).2.1=c at *;have g3:(((c:Nat):Int)<0)=False:=dk;generalize hem:max p.dR (nB l c).dR=e;have he2:=TJ p.dR (nB l c).dR;rw[hem] at he2;have hle:1<=e/\e<=1099511627776:=by rw[<-hem,Int.max_def]; split<;>omega
   cases h2:decide (1099511627776<=e)
   rotate_left
   ·have h2':1099511627776<=e:=by simpa using h2
    rw[av h2'];simp only[C2,Ju,q1,q2,q3,q4,hb,g1,g3,h47,hx,hy,he2,h2,cS,eI,cI,bj,EW,seval]
   ·have h2':¬1099511627776<=e:=by simpa using h2
    rw[aj h2'];rw[<-hrow (e+1)];have hw1:=wr1 hle.1 hle.2;simp only[C2,Ju,q1,q2,q3,q4,hb,g1,g3,h47,hx,hy,he2,h2,vz,wi,cS,eI,cI,bj,EW,seval]
    refine gV (xs:=l) aM (fun i (S:Nat×List Piece)=>S.1=i/\S.2.length<=i) (fun post S=>post.foldl (qK c (a+1) (e+1)) S) (fun S i=>[(0,bV l),(8,aH ((a+1:Nat):Int)),(12,aH c),(14,aH e),(15,.slice (.own 0) (S.2.map dy)),(16,aH i)])
     (fun S=>[.tick 3 S.2.length]) (fun S=>some (ag.tuple [bV S.2,aH 0],([]:aO))) (fun S hS=>?_) (fun pre x post S hh hx cA hw hz hmm hS hi=>?_) (0,[]) ⟨rfl,ak _⟩
    ·simp only[Ju,az,aX,ia,EW,seval]
    ·obtain⟨i,out⟩:=S;obtain⟨hS1,hS⟩:=hS;simp only at hS1 hS;subst hS1;have hlt':pre.length<l.length:=by have:=congrArg List.length hh; simp at this; omega
     have i1:=hi (qK c (a+1) (e+1) (pre.length,out) x) ⟨rfl,by have:=Og c (a+1) (e+1) (pre.length,out) x; simp only at this; omega⟩
     rw[bB];generalize hY:post.foldl (qK c (a+1) (e+1)) (qK c (a+1) (e+1) (pre.length,out) x)=Y at i1 ⊢;have r1:dY (out.length+1) 32=True:=xt;have hwP:=Jm out;unfold qK at i1
     cases ho:((pre.length:Nat):Int)==(c:Int)<;>cases hn:((pre.length:Nat):Int) != ((a+1:Nat):Int) <;>
      (first|(have ho2:(pre.length=c)=True:=eq_true (by (have:=ho; simp at this; omega)))|(have ho2:(pre.length=c)=False:=eq_false (by (have:=ho; simp at this; omega)))) <;>
      (first|(have hn2:(pre.length != a+1)=true:=by (have:=hn; simp at this ⊢; omega))|(have hn2:(pre.length != a+1)=false:=by (have:=hn; simp at this ⊢; omega))) <;>
      simp only[ho2,hn2,aE,aC,af,bH,a8,bE,aR,aD,aF,aN,dy,cI] at i1 <;>
      simp only[Ju,az,cA,hx,hw,hz,ho,hn,hw1,r1,hwP,cS,eI,cI,EW,seval]<;>exact i1
end
end Go.Proofs.YtcbopkblmebjiaaGreatDoor
