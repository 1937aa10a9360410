import Derived.Test.YtcbopkblmebjiaaGreatDoorFduF
set_option linter.unusedSimpArgs false
set_option linter.unusedVariables false
set_option linter.unusedSectionVars false
set_option linter.defProp false
open Go.Proofs.Tryz
namespace Go.Proofs.YtcbopkblmebjiaaGreatDoor
open Go Go.Abs
def PD{l:List Piece}{t:Tree}{o:oS}(hk:o.kind=5)(ha:(mS l t o).2.err=0):(∃x,eB t o.aR=(x,0))/\(bw o.rp).2=0:=by
 unfold mS at ha;split at ha
 ·cases ha
 split at ha
 ·cases ha
 split at ha
 ·rename_i c3;simp only[lQ] at ha;rw[ha] at c3; cases c3
 rename_i c3
 have hwk:eX t o=lI t o:=by
  unfold eX;rw[ak (by omega),ak (by omega),ak (by omega),ak (by omega),az hk]
 rw[hwk] at c3;unfold lI at c3;dsimp only at c3;split at c3
 ·rename_i c5; exact absurd c5 (by simpa using c3)
 rename_i c5;split at c3
 ·rename_i c6; exact absurd c6 (by simpa using c3)
 rename_i c6;split at c3
 ·rename_i c7; exact absurd c7 (by simpa using c3)
 rename_i c7;obtain⟨P,s,f,p1,p2,p3⟩:=vh (by simpa using c5)
 obtain⟨T,nm,to,q1,q2,q3⟩:=vh (by simpa using c6)
 rw[p3,q3] at c7;simp only at c7;refine⟨?_,by rw[q1]⟩
 have hlk:((dR t.ae f s).2 != 0)=false:=by
  cases hl:(dR t.ae f s).2 != 0
  ·rfl
  ·unfold wa at c7;rw[az hl] at c7;exact absurd hl c7
 obtain⟨d,e,g1,g2,g3,g4,_⟩:=look_ok hlk;exact⟨e.au,tu.2 ⟨P++[s],p1,pI.2 (ir.2 ⟨f,pI.1 p2,d,e,g1,g2,g3,g4,rfl⟩)⟩⟩
section
attribute [local irreducible] fP fi kD gK dp kr aq aL ct bI
def U6{l:List Piece}{fl fn fc:ag}{g:vX}{z:Int}{at' j i:Nat}{pc:Piece}{m:Node}{y:qu}{T D N:cA}(hp:l[at']?=some pc)(hy:g.eh[i]?=some y)(hl:y.ae.length<=100000)(hc:∀w,w∈y.ae->w.au=m.au->y.group=pc.group)
  (hfl:∀B M,ag.jz B M fl=fl) (hfn:∀B M,ag.jz B M fn=fn) (hfc:∀B M,ag.jz B M fc=fc) (hT:∀B M,cA.back B M T=T) (hD:∀B M,cA.back B M D=D) (hN:∀B M,cA.back B M N=N) {k:List K} {r:Option (ag×aK)}
  (hk:∀q,kr (aq iM) [.tmp 8] 0 k ⟨.exit 4,(9,.bool true)::(10,.ptr 0 0)::(11,.ptr 1 0)::(12,.int .i64 z)::(14,.ptr 2 0)::(15,.ptr 3 0)::(16,.int .i64 at')::(20,.int .i64 j)::(21,.ptr 5 0)::(22,.int .i64 i)::q,[.cells [bH l,fl,fn,fc],T,.cells [bH g.pieces,jQ g.eh,.int .i64 g.next,.int .i64 g.ai],D,N,.cells (aU m)]⟩=r) :
  fP (aq iM) [.tmp 8] 0 k (.loop [9,10,11,12,14,15,16,20,21,22,23] ahm) [(9,.bool true),(10,.ptr 0 0),(11,.ptr 1 0),(12,.int .i64 z),(14,.ptr 2 0),(15,.ptr 3 0),(16,.int .i64 at'),(20,.int .i64 j),(21,.ptr 5 0),(22,.int .i64 i),(23,.int .i64 0)] [.cells [bH l,fl,fn,fc],T,.cells [bH g.pieces,jQ g.eh,.int .i64 g.next,.int .i64 g.ai],D,N,.cells (aU m)]=r:=by
 have g0:((i:Int)<0)=False:=by simp
 have g1:((at':Int)<0)=False:=by simp
 have g2:((0:Int)<=(at':Int))=True:=by simp
 simp only[aU] at hk ⊢;refine gA (xs:=y.ae) (by omega) (fun _ (_:Unit)=>True) (fun _ (_:Unit)=>()) (fun _ c=>[(9,.bool true),(10,.ptr 0 0),(11,.ptr 1 0),(12,.int .i64 z),(14,.ptr 2 0),(15,.ptr 3 0),(16,.int .i64 at'),(20,.int .i64 j),(21,.ptr 5 0),(22,.int .i64 i),(23,.int .i64 c)]) (fun _=>[.cells [bH l,fl,fn,fc],T,.cells [bH g.pieces,jQ g.eh,.int .i64 g.next,.int .i64 g.ai],D,N,.cells (aU m)]) (fun _=>r) (fun _ _=>?_) (fun pre w post _ hh hz cr hw h0 hm _ hi=>?_) () trivial
 ·simp only[aU];simp only[E5,hy,g0,jH,oq,ml,bg,bf,EW,seval];exact hk _
 ·have i1:=hi () trivial;simp only[aU] at i1 ⊢;cases hc1:w.au==m.au
  ·simp only[E5,hy,g0,cr,hz,hw,h0,hc1,hfl,hfn,hfc,hT,hD,hN,jH,oq,ml,ck,aU,bg,EW,seval];exact i1
  ·have e:=hc w hm (by simpa using hc1)
   simp only[E5,hy,g0,g1,g2,hp,cr,hz,hw,h0,hc1,e,hfl,hfn,hfc,hT,hD,hN,jH,oq,ml,dQ,gr,cL,ck,aU,bg,an,EW,seval];exact i1
def U7{l:List Piece}{fl fn fc:ag}{g:vX}{z:Int}{at' j:Nat}{pc:Piece}{m:Node}{T D N:cA}(hp:l[at']?=some pc)(hl:g.eh.length<=1000)(hn:∀y,y∈g.eh->y.ae.length<=100000)(hc:∀y,y∈g.eh->∀w,w∈y.ae->w.au=m.au->y.group=pc.group)
  (hfl:∀B M,ag.jz B M fl=fl) (hfn:∀B M,ag.jz B M fn=fn) (hfc:∀B M,ag.jz B M fc=fc) (hT:∀B M,cA.back B M T=T) (hD:∀B M,cA.back B M D=D) (hN:∀B M,cA.back B M N=N) {k:List K} {r:Option (ag×aK)}
  (hk:∀q,kr (aq iM) [.tmp 8] 0 k ⟨.exit 2,(9,.bool true)::(10,.ptr 0 0)::(11,.ptr 1 0)::(12,.int .i64 z)::(14,.ptr 2 0)::(15,.ptr 3 0)::(16,.int .i64 at')::(20,.int .i64 j)::q,[.cells [bH l,fl,fn,fc],T,.cells [bH g.pieces,jQ g.eh,.int .i64 g.next,.int .i64 g.ai],D,N,.cells (aU m)]⟩=r) :
  fP (aq iM) [.tmp 8] 0 k (.loop [9,10,11,12,14,15,16,20,21,22] ahn) [(9,.bool true),(10,.ptr 0 0),(11,.ptr 1 0),(12,.int .i64 z),(14,.ptr 2 0),(15,.ptr 3 0),(16,.int .i64 at'),(20,.int .i64 j),(21,.ptr 5 0),(22,.int .i64 0)] [.cells [bH l,fl,fn,fc],T,.cells [bH g.pieces,jQ g.eh,.int .i64 g.next,.int .i64 g.ai],D,N,.cells (aU m)]=r:=by
 simp only[aU] at hk ⊢;refine gA (xs:=g.eh) (by omega) (fun _ (_:Unit)=>True) (fun _ (_:Unit)=>()) (fun _ c=>[(9,.bool true),(10,.ptr 0 0),(11,.ptr 1 0),(12,.int .i64 z),(14,.ptr 2 0),(15,.ptr 3 0),(16,.int .i64 at'),(20,.int .i64 j),(21,.ptr 5 0),(22,.int .i64 c)]) (fun _=>[.cells [bH l,fl,fn,fc],T,.cells [bH g.pieces,jQ g.eh,.int .i64 g.next,.int .i64 g.ai],D,N,.cells (aU m)]) (fun _=>r) (fun _ _=>?_) (fun pre y post _ hh hz cr hw h0 hm _ hi=>?_) () trivial
 ·simp only[aU];simp only[E5,bf,EW,seval];exact hk _
 ·have i1:=hi () trivial;have ca:=fun {k r} hk=>U6 (z:=z) (j:=j) (m:=m) (k:=k) (r:=r) hp hz (hn y hm) (hc y hm) hfl hfn hfc hT hD hN hk
  simp only[aU] at i1 ca ⊢;simp only[E5,cr,hfl,hfn,hfc,hT,hD,hN,EW,seval];refine ca (fun q=>?_)
  simp only[E5,hw,hfl,hfn,hfc,hT,hD,hN,EW,seval];exact i1
set_option maxHeartbeats 4000000 in
set_option maxRecDepth 100000 in
def HY(n:UInt8)(xs:List kc)(a b:Bytes):aq iM 5 [mF n,oM xs,.str a,.str b] []=some (.bool true,[]):=by
 refine aI ?_;have q1:=cP vy;have q2:=fun M=>lG (Uq xs M)
 cases h1:sE xs<;>rw[h1] at q2
 case true=>simp only[fn5,E5,mF,q1,q2,sd,EW,seval]
 cases h2:decide ((1000:Int)<(a.length:Int))
 case true=>simp only[fn5,E5,mF,q1,q2,h2,sd,EW,seval]
 cases h3:decide ((1000:Int)<(b.length:Int))
 case true=>simp only[fn5,E5,mF,q1,q2,h2,h3,sd,EW,seval]
 obtain⟨hn,hs⟩:=sj h1;have ha:a.length<=1000:=by simp only[dk] at h2; omega
 have hb:b.length<=1000:=by simp only[dk] at h3; omega
 have q4:=fun M=>cO (Y7 (c14 n hn hs)) M
 have hf:=FI.made (qZ n) xs;generalize uj (pU n) xs=x at *;obtain⟨l,t⟩:=x;have ho:BI (wb 5 a b 0):=wU 5 a b 0 ha hb;have hR:Rt t:=hf.rt;have q5:=fun M=>lG (hf.vB M)
 change ∀M,aL (aq iM) 23 [.agg (bC (cX (l,t)))] M=_ at q5;have q6:=fun M=>lG (NP t a hR.small (by omega) M)
 have q7:=VI hf ho;have q8:=fun M=>lG (k25 hf.prt b (by omega) M)
 have hd:(za (l,t) (wb 5 a b 0)).2=(mS l t (wb 5 a b 0)).2:=rfl;have hd1:cX (za (l,t) (wb 5 a b 0)).1=bl l (mS l t (wb 5 a b 0)).1:=rfl;have hpc:(cX (l,t)).pieces=l:=rfl;have hok:=PD (l:=l) (t:=t) (o:=wb 5 a b 0) rfl;rw[hd,hd1] at q7
 by_cases he:(mS l t (wb 5 a b 0)).2.err=0
 rotate_left
 ·have he':((mS l t (wb 5 a b 0)).2.err != 0)=true:=by simpa using he
  generalize (mS l t (wb 5 a b 0)).2=d at *;generalize bl l (mS l t (wb 5 a b 0)).1=g at *;generalize cX (l,t)=f at *;simp only[bC,eA,wb,dK,jo,bo,mF,hpc] at q4 q5 q7 q8;simp only[fn5,E5,mF,q1,q2,h2,h3,q4,q5,q6,q7,q8,he',hpc,sd,EW,seval]
 ·obtain⟨⟨z,hz⟩,hsp⟩:=hok he;have hz:eB t a=(z,0):=hz;have hsp:(bw b).2=0:=hsp;obtain⟨nx,hnx⟩:=AW hR hz;have hfd:=hf.za (wb 5 a b 0);have hof:GF l b=(((df l b:Nat):Int),0):=by rw[GF,az hsp]
  have cr:=hf.prt.rV hsp;have hpa:=qR cr
  have q9:∀M,aL (aq iM) 26 [.agg [aZ t.ae,.int .i64 t.next,.int .i64 t.ai],.int .i64 z] M=some (.tuple [ck nx,.bool true],M):=fun M=>by
   have:=lG (F8 t.ae t.next t.ai z (by have:=hR.sz.ae; omega) M)
   rw[hnx] at this; exact this
  have qb:=fun i M=>lG (k27 t.ae t.next t.ai i z (by have:=hR.sz.ae; omega) M)
  rw[hz] at q6;rw[hof] at q8;cases hk2:nx.kind != 2
  rotate_left
  ·generalize (mS l t (wb 5 a b 0)).2=d at *;generalize bl l (mS l t (wb 5 a b 0)).1=g at *;generalize cX (l,t)=f at *;simp only[bC,eA,wb,dK,jo,bo,mF,hpc,he,ck,aU] at q4 q5 q7 q8 q9;simp only[fn5,E5,mF,q1,q2,h2,h3,q4,q5,q6,q7,q8,q9,hpc,hk2,an,sd,EW,seval]
  have hnk:nx.kind=2:=by simpa using hk2
  obtain⟨c1,c2⟩:=afM hf (o:=wb 5 a b 0) rfl he hz hnx hnk
  have c3:∀m,m∈t.ae->m.kind=2->iR t.ae m.au z=true->∀y,y∈(bl l (mS l t (wb 5 a b 0)).1).eh->∀w,w∈y.ae->w.au=m.au->y.group=(mD l (df l b)).group:=by
   intro m hm hmk hmb y hy w hw hwi;obtain⟨cf,hg⟩:=hf.rt;obtain⟨dep',hg'⟩:=hfd.rt;obtain⟨y1,_⟩:=wO hy;rw[y1] at hw;simp only[ef,dM] at hw;have f1:=(ft hg.jB.ju).2 ⟨hm,rfl⟩;have f2:=(ft hg'.jB.ju).2 ⟨hw.1,rfl⟩;rw[hwi] at f2;have:=c2 m.au m w f1 hmk hmb f2;rw[<-hwi] at this;rw[<-hw.2]; exact this
  have hll:(bl l (mS l t (wb 5 a b 0)).1).eh.length<=8:=hfd.eh;have hls:=hfd.small;change ∀y,y∈(bl l (mS l t (wb 5 a b 0)).1).eh->_ at hls;generalize (mS l t (wb 5 a b 0)).2=d at *;generalize bl l (mS l t (wb 5 a b 0)).1=g at *;generalize cX (l,t)=f at *;generalize df l b=at' at *;generalize mD l at'=pc at *;simp only[bC,eA,wb,dK,jo,bo,mF,hpc,he,c1,ck,aU] at q4 q5 q7 q8 q9;simp only[fn5,E5,mF,q1,q2,h2,h3,q4,q5,q6,q7,q8,q9,hpc,hk2,an,sd,EW,seval];have cb:=fun {j m T D N k r} hc hT hD hN hk=>U7 (l:=l) (fl:=jQ f.eh) (fn := .int .i64 f.next) (fc := .int .i64 f.ai) (g:=g) (z:=z) (at':=at') (j:=j) (pc:=pc) (m:=m) (T:=T) (D:=D) (N:=N) hpa (by omega) (fun y hy=>(hls y hy).ae) hc (fun _ _=>rfl) (fun _ _=>rfl) (fun _ _=>rfl) hT hD hN (k:=k) (r:=r) hk
  refine cW (gA (xs:=t.ae) (by have:=hR.sz.ae; omega) (fun _ (_:Unit)=>True) (fun _ (_:Unit)=>()) (fun _ c=>[(9,.bool true),(10,.ptr 0 0),(11,.ptr 1 0),(12,.int .i64 z),(14,.ptr 2 0),(15,.ptr 3 0),(16,.int .i64 at'),(20,.int .i64 c)])
   (fun _=>[.cells [bH l,jQ f.eh,.int .i64 f.next,.int .i64 f.ai],.cells [aZ t.ae,.int .i64 t.next,.int .i64 t.ai],.cells [bH g.pieces,jQ g.eh,.int .i64 g.next,.int .i64 g.ai],.cells [.int .i64 0,.int .i64 z,.int .i64 d.kind,.int .i64 d.n,.int .i64 d.m,fL d.names,.slice .sh (d.data.map mF)],.cells [.int .i64 nx.au,.int .i64 nx.kind,.int .i64 nx.dj,.slice .sh (nx.data.map mF),ib nx.aM,.int .i64 nx.up]])
   (fun _=>some (.bool true,[])) (fun _ _=>?_) (fun pre m post _ hh hz2 hlt2 hw h0 hm _ hi=>?_) () trivial) rfl
  ·simp only[E5,bf,ei,EW,seval]
  ·have i1:=hi () trivial;have qb:=qb m.au;cases hmk:m.kind != 2
   rotate_left
   ·simp only[E5,hlt2,hz2,hw,h0,hmk,ck,aU,EW,seval];exact i1
   cases hmb:iR t.ae m.au z<;>rw[hmb] at qb
   ·simp only[E5,hlt2,hz2,hw,h0,hmk,qb,ck,aU,EW,seval];exact i1
   ·have cb:=fun {k r} hT hD hN hk=>cb (j:=pre.length) (m:=m) (T := .cells [aZ t.ae,.int .i64 t.next,.int .i64 t.ai]) (D := .cells [.int .i64 0,.int .i64 z,.int .i64 d.kind,.int .i64 d.n,.int .i64 d.m,fL d.names,.slice .sh (d.data.map mF)]) (N := .cells [.int .i64 nx.au,.int .i64 nx.kind,.int .i64 nx.dj,.slice .sh (nx.data.map mF),ib nx.aM,.int .i64 nx.up]) (c3 m hm (by simpa using hmk) hmb) hT hD hN (k:=k) (r:=r) hk
    simp only[aU,jo] at cb;simp only[E5,hlt2,hz2,h0,hmk,qb,ck,aU,jo,EW,seval];refine cb (fun _ _=>rfl) (fun _ _=>rfl) (fun _ _=>rfl) (fun q=>?_)
    simp only[E5,hw,EW,seval];exact i1
end
end Go.Proofs.YtcbopkblmebjiaaGreatDoor
