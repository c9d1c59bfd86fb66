/- The law NamesResolves holds where what it reads is of bulk at most 1048576: it returns true, and its argument reads as before. Part 19: Shp4 Shp4i Shp5. -/
import Derived.Test.YtoepemlnlpamlaaGreatReso18
set_option maxRecDepth 100000
set_option maxHeartbeats 4000000
namespace Go.Proofs.YtoepemlnlpamlaaGreat
open Go.RowKit
def iR:Nat->Tg
 | 0=>.any
 | 11=>.any
 | 12=>.shape ⟨eQ,[],none,0⟩
 | 13=>.ints [3,5]
 | 14=>.kind (bR [3,5])
 | 15=>.shape ⟨eQ,[],some (bR [3,5]),0⟩
 | 16=>.text cO
 | 17=>.ints [4]
 | 18=>.kind (bR [4])
 | 19=>.shape ⟨cO,[],some (bR [4]),1⟩
 | 20=>.text cO
 | 21=>.ints [9]
 | 22=>.kind (bR [9])
 | 23=>.qh [bR [9]]
 | 24=>.shape ⟨cO,[bR [9]],none,0⟩
 | 25=>.text cO
 | 26=>.ints [6]
 | 27=>.kind (bR [6])
 | 28=>.kind (gG di)
 | 29=>.kind (bR [11])
 | 30=>.qh [bR [6],gG di,bR [11]]
 | 31=>.shape ⟨cO,[bR [6],gG di,bR [11]],none,0⟩
 | 32=>.ints [7,8]
 | 33=>.kind (bR [7,8])
 | 34=>.shape ⟨eQ,[],some (bR [7,8]),0⟩
 | 35=>.text cO
 | 36=>.kind (gG di)
 | 37=>.qh [gG di]
 | 38=>.shape ⟨cO,[gG di],none,0⟩
 | 39=>.text cO
 | 40=>.kind (gG di)
 | 41=>.qh [gG di]
 | 42=>.shape ⟨cO,[gG di],none,0⟩
 | 43=>.text MK
 | 44=>.shape ⟨MK,[],none,0⟩
 | 45=>.shape ⟨je,[],none,0⟩
 | 46=>.shape ⟨eQ,[],some kG,0⟩
 | 47=>.text cO
 | 48=>.kind (gG di)
 | 49=>.kind (aP)
 | 50=>.qh [gG di,aP]
 | 51=>.shape ⟨cO,[gG di,aP],none,0⟩
 | 52=>.kind (aP)
 | 53=>.qh [jh,aP]
 | 54=>.shape ⟨eQ,[jh,aP],none,0⟩
 | 55=>.kind (aP)
 | 56=>.kind (bR [11])
 | 57=>.ints [11,14]
 | 58=>.kind (bR [11,14])
 | 59=>.kind (gG (bR [11,14]))
 | 60=>.qh [aP,bR [11],gG (bR [11,14])]
 | 61=>.shape ⟨eQ,[aP,bR [11],gG (bR [11,14])],none,0⟩
 | 62=>.kind (aP)
 | 63=>.kind (bR [11])
 | 64=>.qh [aP,bR [11]]
 | 65=>.shape ⟨eQ,[aP,bR [11]],none,0⟩
 | 66=>.text cO
 | 67=>.kind (aP)
 | 68=>.kind (aP)
 | 69=>.kind (bR [11])
 | 70=>.qh [aP,aP,bR [11]]
 | 71=>.shape ⟨cO,[aP,aP,bR [11]],none,0⟩
 | 72=>.kind (aP)
 | 73=>.kind (gG (aP))
 | 74=>.qh [gG (aP)]
 | 75=>.shape ⟨eQ,[gG (aP)],none,0⟩
 | 76=>.kind (aP)
 | 77=>.qh [aP]
 | 78=>.shape ⟨eQ,[aP],none,0⟩
 | 79=>.text cO
 | 80=>.kind (aP)
 | 81=>.shape ⟨cO,[],some (aP),0⟩
 | 82=>.text cO
 | 83=>.shape ⟨cO,[],none,0⟩
 | 84=>.ints [20]
 | 85=>.kind (bR [20])
 | 86=>.kind (aP)
 | 87=>.qh [bR [20],aP]
 | 88=>.shape ⟨eQ,[bR [20],aP],none,0⟩
 | 89=>.text cO
 | 90=>.ints [20]
 | 91=>.kind (bR [20])
 | 92=>.qh [bR [20]]
 | 93=>.shape ⟨cO,[bR [20]],none,0⟩
 | 94=>.ints [20]
 | 95=>.kind (bR [20])
 | 96=>.qh [bR [20]]
 | 97=>.shape ⟨eQ,[bR [20]],none,0⟩
 | 98=>.shape ⟨je,[],none,0⟩
 | 99=>.strs Es
 | 100=>.text (mU Es)
 | 101=>.shape ⟨(mU Es),[],none,0⟩
 | 102=>.kind (aP)
 | 103=>.shape ⟨eQ,[],some (aP),1⟩
 | 104=>.text cO
 | 105=>.kind (aP)
 | 106=>.shape ⟨cO,[],some (aP),0⟩
 | 107=>.strs Po
 | 108=>.text (mU Po)
 | 109=>.kind (aP)
 | 110=>.qh [aP]
 | 111=>.shape ⟨(mU Po),[aP],none,0⟩
 | 112=>.strs Bb
 | 113=>.text (mU Bb)
 | 114=>.kind (aP)
 | 115=>.kind (aP)
 | 116=>.qh [aP,aP]
 | 117=>.shape ⟨(mU Bb),[aP,aP],none,0⟩
 | 118=>.any
 | _=>.any
def kD:Nat->Option Int
 | 2=>some 0
 | 6=>some 2
 | 11=>some 3
 | 17=>some 4
 | 25=>some 5
 | 29=>some 6
 | 34=>some 7
 | 39=>some 8
 | 42=>some 9
 | 44=>some 10
 | 46=>some 11
 | 52=>some 12
 | 56=>some 13
 | 64=>some 14
 | 69=>some 15
 | 76=>some 16
 | 81=>some 17
 | 85=>some 18
 | 89=>some 19
 | 92=>some 20
 | 98=>some 21
 | 104=>some 22
 | 109=>some 23
 | 111=>some 24
 | 115=>some 25
 | 118=>some 26
 | 122=>some 27
 | 128=>some 28
 | 135=>some 29
 | _=>none
def MapI(w0:World)(listed:Array Bool)(a:Act)(w:World):Prop:=
 listed.getD 0 false=true->∃r m,a.tmps[11]? =some (.map (some r))/\w0.heap.size<=r/\aY kC w r m/\(∀x∈m,∃sh,lK x.1=some sh/\ql w x.2 sh) /\
  (∀i k,kD i=some k->listed.getD i false=true->(nD m k).isSome=true)/\(listed.getD 136 false=true->a.tmps[118]? =some (.map (some r)))/\(listed.getD 137 false=true->a.tmps[0]? =some (.map (some r)))
structure p8 (w0:World) (b1 b5:Nat) (v2 v4 v5:Value) (listed:Array Bool) (a:Act) (w:World):Prop where
 size:a.tmps.size=119
 t1:a.tmps[1]? =some (.pointer (some ⟨b1,0,none⟩))
 t2:a.tmps[2]? =some v2
 t3:a.tmps[3]? =some (.func (Fn.func 190) #[] #[])
 t4:a.tmps[4]? =some v4
 t5:a.tmps[5]? =some (.pointer (some ⟨b5,0,none⟩))
 k1:ai w b1 99 #[.func (Fn.func 53) #[] #[]]
 k2:jm w v2 (bR [11])
 k4:jm w v4 (gG di)
 k5:ai w b5 99 #[v5]
 q5:oI w v5 (mU CV)
 tmp:Et (dD Tryz.f141 4).toArray (fun t w v=>yc w v (iR t)) listed a w
 oo:MapI w0 listed a w
 ord:∀i,(kD i≠none\/i=136\/i=137)->listed.getD i false=true->listed.getD 0 false=true
 below:Below w0.heap.size w0 w
 defers:a.defers=[]
theorem ma{i:Nat}{d:Option Nat}{op:Op}(h:((dD Tryz.f141 4).toArray[i]?).map (fun o=>(o.dst,o.op,o.guard))=some (d,op,none)):∃o,(dD Tryz.f141 4).toArray[i]? =some o/\o.dst=d/\o.op=op/\o.guard=none:=by
 cases ho:(dD Tryz.f141 4).toArray[i]? with
 | none=>rw[ho]at h;cases h
 | some o=>
  rw[ho]at h;simp only[Option.map_some,abJ,Prod.mk.injEq]at h;exact⟨o,rfl,h.1,h.2.1,h.2.2⟩
theorem p8.get{w0:World}{b1 b5:Nat}{v2 v4 v5:Value}{listed:Array Bool}{a:Act}{w:World}(hI:p8 w0 b1 b5 v2 v4 v5 listed a w){i:Nat}(hi:i∈Region.ready .any (dD Tryz.f141 4).toArray listed){j u:Nat}
 (hj:((dD Tryz.f141 4).toArray[j]?).map (fun o=>o.dst)=some (some u)) (hdep:((dD Tryz.f141 4).toArray[i]?).map (fun o=>o.after.toList.any fun e=>Region.binds .any e&&(e.on==j))=some true):∃v,a.tmps[u]? =some v/\yc w v (iR u):=by
 cases ho:(dD Tryz.f141 4).toArray[j]? with
 | none=>rw[ho]at hj;cases hj
 | some o=>
  rw[ho]at hj;simp only[Option.map_some,abJ]at hj;exact hI.tmp j o u ho hj (zM hi hdep)
def Xc(ops:List Oper):Bool:=(List.range ops.length).all fun i=>match ops[i]? with|some o=>o.after.toList.all fun e=>decide (e.on<i)|none=>true
def aao(ops:List Oper):Bool:=(List.range ops.length).all fun i=>match ops[i]? with|some o=>(match o.dst with|some t=>ops.findIdx (fun x=>x.dst==some t)==i|none=>true)|none=>true
theorem acyc_of{ops:List Oper}(h:Xc ops=true):∀(i:Nat) (o:Oper),ops.toArray[i]? =some o->∀e∈o.after,e.on<i:=by
 intro i o ho e he;have hi:=(abH.1 ho).1;unfold Xc at h;rw[List.all_eq_true]at h;have h1:=h i (by simpa using hi);rw[show ops[i]? =some o by simpa using ho]at h1;simp only[List.all_eq_true,decide_eq_true_eq]at h1;exact h1 e (by simpa using he)
theorem Lj{ops:List Oper}(h:aao ops=true):∀(i j:Nat) (o o':Oper) (t:Nat),ops.toArray[i]? =some o->ops.toArray[j]? =some o'->o.dst=some t->o'.dst=some t->i=j:=by
 have key:∀(i:Nat) (o:Oper) (t:Nat),ops.toArray[i]? =some o->o.dst=some t->ops.findIdx (fun x=>x.dst==some t)=i:=by
  intro i o t ho hd;have hi:=(abH.1 ho).1;unfold aao at h;rw[List.all_eq_true]at h;have h1:=h i (by simpa using hi);rw[show ops[i]? =some o by simpa using ho]at h1;simp only[hd,beq_iff_eq]at h1;exact h1
 intro i j o o' t hi hj hd hd';rw[<- key i o t hi hd,<- key j o' t hj hd']
theorem sh_acyc:Xc (dD Tryz.f141 4)=true:=by kernel_rfl
theorem KI:aao (dD Tryz.f141 4)=true:=by kernel_rfl
theorem zP{P:Program}{ops:Array Oper}{Q:Exit->Act->World->Prop}{i:Nat}{o:Oper}{a:Act}{w:World}{K:Act->World->Prop}(ho:ops[i]? =some o)(hg:o.guard=none)(h:o.wp P a w K Q):wpOp P ops Q i K a w:=by
 unfold wpOp;simp only[ho];rw[if_pos (by simp[Region.wanted,hg])];exact .inl h
theorem eO{listed:Array Bool}{i j:Nat}(hne:j≠i):(listed.setIfInBounds i true).getD j false=listed.getD j false:=by
 simp[Array.getD_eq_getD_getElem?,Array.getElem?_setIfInBounds_ne (Ne.symm hne)]
theorem p8.put{w0:World}{b1 b5:Nat}{v2 v4 v5:Value}{listed:Array Bool}{a:Act}{w w':World}(hI:p8 w0 b1 b5 v2 v4 v5 listed a w)(hs:listed.size=(dD Tryz.f141 4).toArray.size){i:Nat}{o:Oper}{t:Nat}{v:Value}
 (ho:(dD Tryz.f141 4).toArray[i]? =some o) (hd:o.dst=some t) (ht:12<=t/\t<=117) (hins:kD i=none/\i≠0/\i≠136/\i≠137) (hb:Below w.heap.size w w') (hv:yc w' v (iR t)):
 p8 w0 b1 b5 v2 v4 v5 (listed.setIfInBounds i true) (a.put o.dst v) w':=by
 have hk:=KC.of_below hb
 have hp:∀u,u≠t->(a.put o.dst v).tmps[u]? =a.tmps[u]? :=fun u hu=>by
  rw[hd];show(a.tmps.setIfInBounds t v)[u]? =_;rw[Array.getElem?_setIfInBounds_ne (Ne.symm hu)]
 refine⟨?_,(hp 1 (by omega)).trans hI.t1,(hp 2 (by omega)).trans hI.t2,(hp 3 (by omega)).trans hI.t3,(hp 4 (by omega)).trans hI.t4,(hp 5 (by omega)).trans hI.t5,hk.blk hI.k1,hI.k2.kc hk hb.size,hI.k4.kc hk hb.size,hk.blk hI.k5,hI.q5.kc hk hb.size,?_,?_,?_,hI.below.trans (hb.mono hI.below.size),?_⟩
 ·rw[hd]
  show(a.tmps.setIfInBounds t v).size=119;simpa using hI.size
 ·exact hI.tmp.put hs (fun t v h=>yc.kc hk hb.size h) (Lj KI) ho hd (by rw[hI.size];omega) hv
 ·intro h0
  rw[eO (Ne.symm hins.2.1)]at h0;obtain⟨r,m,h1,h2,h3,h4,h5,h6,h7⟩:=hI.oo h0;refine⟨r,m,(hp 11 (by omega)).trans h1,h2,h3.below hb h3.lt,fun x hx=>?_,fun j k hj hl=>?_,fun hl=>?_,fun hl=>?_⟩
  ·obtain⟨sh,h8,h9⟩:=h4 x hx
   exact⟨sh,h8,h9.kc hk hb.size⟩
  ·have hne:j≠i:=by rintro rfl;rw[hins.1]at hj;cases hj
   rw[eO hne]at hl;exact h5 j k hj hl
  ·rw[eO (Ne.symm hins.2.2.1)]at hl
   exact(hp 118 (by omega)).trans (h6 hl)
  ·rw[eO (Ne.symm hins.2.2.2)]at hl
   exact(hp 0 (by omega)).trans (h7 hl)
 ·intro j hj hl
  have hne:j≠i:=by
   rintro rfl;rcases hj with hj|hj|hj
   ·exact hj hins.1
   ·exact hins.2.2.1 hj
   ·exact hins.2.2.2 hj
  rw[eO hne]at hl;rw[eO (Ne.symm hins.2.1)];exact hI.ord j hj hl
 ·rw[hd]
  exact hI.defers
def jA(i:Nat):Prop:=∀(w0:World) (b1 b5:Nat) (v2 v4 v5:Value) (listed:Array Bool) (a:Act) (w:World) (Q:Exit->Act->World->Prop),listed.size=(dD Tryz.f141 4).toArray.size->p8 w0 b1 b5 v2 v4 v5 listed a w->i∈Region.ready .any (dD Tryz.f141 4).toArray listed ->
 wpOp Tryz.prog (dD Tryz.f141 4).toArray Q i (p8 w0 b1 b5 v2 v4 v5 (listed.setIfInBounds i true)) a w
theorem ku{w0:World}{b1 b5:Nat}{v2 v4 v5:Value}{listed:Array Bool}{a:Act}{w:World}{Q:Exit->Act->World->Prop}(hs:listed.size=(dD Tryz.f141 4).toArray.size)(hI:p8 w0 b1 b5 v2 v4 v5 listed a w){i:Nat}{o:Oper}{t:Nat}
 (_hi:i∈Region.ready .any (dD Tryz.f141 4).toArray listed) (ho:(dD Tryz.f141 4).toArray[i]? =some o) (hg:o.guard=none) (hd:o.dst=some t) (ht:12<=t/\t<=117) (hins:kD i=none/\i≠0/\i≠136/\i≠137)
 {v:Value}{w':World}(hrun:(execOp a.eval o).run Tryz.prog w= .ok (.value v) w') (hb:Below w.heap.size w w') (hv:yc w' v (iR t)):
 wpOp Tryz.prog (dD Tryz.f141 4).toArray Q i (p8 w0 b1 b5 v2 v4 v5 (listed.setIfInBounds i true)) a w:=by
 refine zP (o:=o) ho hg ?_;unfold Oper.wp;rw[hrun,Oper.upon_value];exact hI.put hs ho hd ht hins hb hv
theorem Ff{w0:World}{b1 b5:Nat}{v2 v4 v5:Value}{listed:Array Bool}{a:Act}{w:World}{Q:Exit->Act->World->Prop}(hs:listed.size=(dD Tryz.f141 4).toArray.size)(hI:p8 w0 b1 b5 v2 v4 v5 listed a w){i:Nat}{o:Oper}{t:Nat}
 (_hi:i∈Region.ready .any (dD Tryz.f141 4).toArray listed) (ho:(dD Tryz.f141 4).toArray[i]? =some o) (hg:o.guard=none) (hd:o.dst=some t) (ht:12<=t/\t<=117) (hins:kD i=none/\i≠0/\i≠136/\i≠137)
 {f:Nat}{args:Array Value}(hrun:(execOp a.eval o).run Tryz.prog w= .ok (.enter f args) w) (hc:Calls Tryz.prog f args w fun e w'=> ∃v,e= .returned v/\yc w' v (iR t)/\Below w.heap.size w w'):
 wpOp Tryz.prog (dD Tryz.f141 4).toArray Q i (p8 w0 b1 b5 v2 v4 v5 (listed.setIfInBounds i true)) a w:=by
 refine zP (o:=o) ho hg ?_;unfold Oper.wp;rw[hrun,Oper.upon_enter];refine hc.mono ?_;rintro e w' ⟨v,rfl,hv,hb⟩;exact hI.put hs ho hd ht hins hb hv
theorem JI(w:World)(ty:TypeId)(l:List Int):bN 1 fO (w.alloc (.cells (l.map fun i=>Value.int .i64 i).toArray ty)) (w.alloc (.cells (l.map fun i=>Value.int .i64 i).toArray ty)).heap.size (some ⟨w.heap.size,0,none⟩) l:=by
 intro k c hk;refine⟨w.heap.size,0,rfl,by simp,fun j v hj=>?_⟩;have hb:=ai.new w ty (l.map fun i=>Value.int .i64 i).toArray;rw[hb.cell]
 cases j with
 | zero=>
  simp[fO]at hj;subst hj;simp[hk]
 | succ j=>simp[fO]at hj
theorem Bv(w:World)(ty:TypeId)(l:List ByteArray):bN 1 fE (w.alloc (.cells (l.map fun i=>Value.string i).toArray ty)) (w.alloc (.cells (l.map fun i=>Value.string i).toArray ty)).heap.size (some ⟨w.heap.size,0,none⟩) l:=by
 intro k c hk;refine⟨w.heap.size,0,rfl,by simp,fun j v hj=>?_⟩;have hb:=ai.new w ty (l.map fun i=>Value.string i).toArray;rw[hb.cell]
 cases j with
 | zero=>
  simp[fE]at hj;subst hj;simp[hk]
 | succ j=>simp[fE]at hj
inductive Kq (w:World):List Value->List (Int->Bool)->Prop where
 | nil:Kq w [] []
 | cons {v:Value}{p:Int->Bool}{vs:List Value}{ps:List (Int->Bool)}:jm w v p->Kq w vs ps->Kq w (v::vs) (p::ps)
theorem Kq.get{w:World}:∀{vs:List Value}{ps:List (Int->Bool)},Kq w vs ps->∀(i:Nat) (p:Int->Bool),ps[i]? =some p->∃v,vs[i]? =some v/\jm w v p
 | _,_,.nil,i,p,h=>by simp at h
 | _,_,.cons h1 h2,0,p,h=>by
  simp at h;subst h;exact⟨_,rfl,h1⟩
 | _,_,.cons h1 h2,i+1,p,h=>by
  obtain⟨v,h3,h4⟩:=Kq.get h2 i p (by simpa using h);exact⟨v,by simpa using h3,h4⟩
theorem JY(w:World)(ty:TypeId)(vs:List Value)(ps:List (Int->Bool))(h:Kq w vs ps):Hf (w.alloc (.cells vs.toArray ty)) (some ⟨w.heap.size,0,none⟩) ps:=by
 intro i p hp;obtain⟨v,h1,h2⟩:=h.get i p hp;refine⟨w.heap.size,0,v,rfl,?_,h2.below (ag _ _)⟩;have hb:=ai.new w ty vs.toArray;rw[hb.cell];simpa using h1
theorem FD{w:World}{v:Value}{p:Int->Bool}(h:jm w v p):∃fn cap,v= .func (Fn.func fn) #[] cap:=by
 obtain⟨fn,cap,rfl,-⟩:=h;exact⟨fn,cap,rfl⟩
theorem Nq{w:World}{v:Value}{p:ByteArray->Bool}(h:oI w v p):∃fn cap,v= .func (Fn.func fn) #[] cap:=by
 obtain⟨fn,cap,rfl,-⟩:=h;exact⟨fn,cap,rfl⟩
section
variable {K:Type} [DecidableEq K]
theorem Qr(k:K):∀(m:List (K×Value)) (i:Nat),(mg k m i).isSome=true↔k∈m.map (·.1)
 | [],i=>by simp[mg]
 | x::m,i=>by
  simp only[mg,List.map_cons,List.mem_cons];by_cases h:k=x.1
  ·simp[h]
  ·rw[if_neg h,Qr k m (i+1)]
   simp[h]
theorem NG{m:List (K×Value)}{k:K}:(nD m k).isSome=true↔k∈m.map (·.1):=by
 unfold nD;rw[Option.isSome_map];exact Qr k m 0
theorem Yf{m:List (K×Value)}{k:K}{v:Value}(h:nD m k=some v):(k,v)∈m:=by
 unfold nD at h
 cases hp:mg k m 0 with
 | none=>rw[hp]at h;cases h
 | some x=>
  obtain⟨i,u⟩:=x;rw[hp]at h;simp at h;subst h;obtain⟨n,h1,h2⟩:=GQ k m 0 i u hp;exact abQ h2
theorem Z0{m:List (K×Value)}{k:K}{v:Value}{x:K×Value}(h:x∈pE m k v):x∈m\/x=(k,v):=by
 unfold pE at h;split at h
 ·simp at h
  exact h
 ·rename_i i u hp
  rw[List.mem_iff_getElem?]at h;obtain⟨j,hj⟩:=h;rw[List.getElem?_modify]at hj
  cases hm:m[j]? with
  | none=>rw[hm]at hj;simp at hj
  | some y=>
   rw[hm]at hj;simp at hj;split at hj
   ·exact .inr hj.symm
   ·exact .inl (by rw[<- hj];exact abQ hm)
theorem Nv{m:List (K×Value)}{k:K}{v:Value}:k∈(pE m k v).map (·.1)/\∀j∈m.map (·.1),j∈(pE m k v).map (·.1):=by
 unfold pE;split
 ·simp
  intro j x hx;exact .inl ⟨x,hx⟩
 ·rename_i i u hp
  obtain⟨n,h1,h2⟩:=GQ k m 0 i u hp;have hn:i=n:=by omega
  subst hn
  have hk:(m.modify i fun _=>(k,v)).map (·.1)=m.map (·.1):=by
   apply List.ext_getElem?
   intro j;rw[List.getElem?_map,List.getElem?_map,List.getElem?_modify];by_cases hj:i=j
   ·subst hj
    simp[h2]
   ·cases m[j]? <;>simp[hj]
  rw[hk];exact⟨List.mem_map.2 ⟨(k,u),abQ h2,rfl⟩,fun j hj=>hj⟩
end
theorem ZW{w0:World}{b1 b5:Nat}{v2 v4 v5:Value}{listed:Array Bool}{a:Act}{w:World}{Q:Exit->Act->World->Prop}(hs:listed.size=(dD Tryz.f141 4).toArray.size)(hI:p8 w0 b1 b5 v2 v4 v5 listed a w){i:Nat}{o:Oper}
 (_hi:i∈Region.ready .any (dD Tryz.f141 4).toArray listed) (ho:(dD Tryz.f141 4).toArray[i]? =some o) (hg:o.guard=none) (hd:o.dst=none) {k:Int}{u:Nat}{v:Value}
 (hop:o.op=Op.insert 191 (Operand.tmp 11) (Operand.const (Value.int IntKind.i64 k)) (Operand.tmp u)) (hins:kD i=some k) (he:a.eval (.tmp u)=v) (h0:listed.getD 0 false=true) (hsh:(lK k).map Tg.shape=some (iR u)) (hT:yc w v (iR u)):
 wpOp Tryz.prog (dD Tryz.f141 4).toArray Q i (p8 w0 b1 b5 v2 v4 v5 (listed.setIfInBounds i true)) a w:=by
 obtain⟨r,m,h1,h2,h3,h4,h5,h6,h7⟩:=hI.oo h0
 obtain⟨sh,hsm,hst⟩:∃sh,lK k=some sh/\iR u= .shape sh:=by
  cases hk:lK k with
  | none=>rw[hk]at hsh;cases hsh
  | some sh=>rw[hk]at hsh;simp at hsh;exact⟨sh,rfl,hsh.symm⟩
 rw[hst]at hT;obtain⟨w2,hrun,hA2,hg2,hz2⟩:=fF (P:=Tryz.prog) (KK:=kC) (t:=191) (kt:=3) (et:=197) Tryz.underlying191 Tryz.underlying3 h3 k v;have he11:=uj h1
 have hk2:KC w w2:=by
  intro g cs ty fr hgc;refine hg2.block g (abH.1 hgc).1 ?_;intro e1;cases e1
  obtain⟨es,clock,h8,-⟩:=h3;rw[hgc]at h8;cases h8
 have hi0:i≠0:=by rintro rfl;cases hins
 have hput:∀x,a.put none x=a:=fun _=>rfl
 refine zP (o:=o) ho hg ?_;unfold Oper.wp
 have hrun2:(execOp a.eval o).run Tryz.prog w= .ok .skip w2:=by
  simp only[execOp,hop];rw[he11,he];simp only[Act.eval];have:=hrun;unfold kC at this;simp only at this;simp[this,Result.andThen]
 rw[hrun2,Oper.upon_skip,hd,hput];refine⟨hI.size,hI.t1,hI.t2,hI.t3,hI.t4,hI.t5,hk2.blk hI.k1,hI.k2.kc hk2 (by omega),hI.k4.kc hk2 (by omega),hk2.blk hI.k5,hI.q5.kc hk2 (by omega),hI.tmp.skip hs (fun t v h=>yc.kc hk2 (by omega) h) ho hd,?_,?_,?_,hI.defers⟩
 ·intro _
  refine⟨r,pE m k v,h1,h2,hA2,fun x hx=>?_,fun j k' hj hl=>?_,fun hl=>?_,fun hl=>?_⟩
  ·rcases Z0 hx with hx|rfl
   ·obtain⟨sh',h8,h9⟩:=h4 x hx
    exact⟨sh',h8,h9.kc hk2 (by omega)⟩
   ·exact⟨sh,hsm,ql.kc hT hk2 (by omega)⟩
  ·rw[NG]
   by_cases hji:j=i
   ·subst hji
    rw[hins]at hj;cases hj
    exact Nv.1
   ·rw[eO hji]at hl
    exact Nv.2 _ (NG.1 (h5 j k' hj hl))
  ·refine h6 ?_
   rw[eO (by rintro rfl;cases hins)]at hl;exact hl
  ·refine h7 ?_
   rw[eO (by rintro rfl;cases hins)]at hl;exact hl
 ·intro j hj hl
  rw[eO (Ne.symm hi0)];exact h0
 ·exact hI.below.trans (((aF.refl (fun g=>g=r) w).grown hg2 (fun k hk=>by cases hk;exact .inl rfl)).toBelow hI.below.size (fun g hg=>by omega))
theorem op_0(so:((dD Tryz.f141 4).toArray[0]?).map (fun o=>(o.dst,o.op,o.guard))=some (some 11,Op.makeMap 191 none,none)):jA 0:=by
 intro w0 b1 b5 v2 v4 v5 listed a w Q hs hI hi;obtain⟨o,ho,hd,hop,hg⟩:=ma so;have hun:=(mem_ready.1 hi).1;have hlt:0<listed.size:=by have:=(abH.1 ho).1;omega
 have h00:listed.getD 0 false=false:=by simp[hlt]at hun⊢;exact hun
 have hb:=ag w (.map #[] 0);have hk:=KC.of_below hb
 have hp:∀u,u≠11->(a.put o.dst (.map (some w.heap.size))).tmps[u]? =a.tmps[u]? :=fun u hu=>by
  rw[hd];show(a.tmps.setIfInBounds 11 _)[u]? =_;rw[Array.getElem?_setIfInBounds_ne (Ne.symm hu)]
 refine zP (o:=o) ho hg ?_;unfold Oper.wp
 have hrun:(execOp a.eval o).run Tryz.prog w= .ok (.value (.map (some w.heap.size))) (w.alloc (.map #[] 0)):=by
  simp only[execOp,hop];have:=@run_makeMap Tryz.prog 191 w;simp[this,Result.andThen]
 rw[hrun,Oper.upon_value];refine⟨?_,(hp 1 (by omega)).trans hI.t1,(hp 2 (by omega)).trans hI.t2,(hp 3 (by omega)).trans hI.t3,(hp 4 (by omega)).trans hI.t4,(hp 5 (by omega)).trans hI.t5,hk.blk hI.k1,hI.k2.kc hk hb.size,hI.k4.kc hk hb.size,hk.blk hI.k5,hI.q5.kc hk hb.size,?_,?_,?_,hI.below.trans (hb.mono hI.below.size),?_⟩
 ·rw[hd]
  show(a.tmps.setIfInBounds 11 _).size=119;simpa using hI.size
 ·exact hI.tmp.put hs (fun t v h=>yc.kc hk hb.size h) (Lj KI) ho hd (by rw[hI.size];omega) trivial
 ·intro _
  refine⟨w.heap.size,[],?_,hI.below.size,aY.made w,by simp,fun j k hj hl=>?_,fun hl=>?_,fun hl=>?_⟩
  ·rw[hd]
   show(a.tmps.setIfInBounds 11 _)[11]? =_;simp[hI.size]
  ·have hne:j≠0:=by rintro rfl;cases hj
   rw[eO hne]at hl;have:=hI.ord j (.inl (by rw[hj];simp)) hl;rw[h00]at this;cases this
  ·rw[eO (by omega)]at hl
   have:=hI.ord 136 (.inr (.inl rfl)) hl;rw[h00]at this;cases this
  ·rw[eO (by omega)]at hl
   have:=hI.ord 137 (.inr (.inr rfl)) hl;rw[h00]at this;cases this
 ·intro j hj hl
  simp[hlt]
 ·rw[hd]
  exact hI.defers
def qW(i u:Nat):Prop:=(match (dD Tryz.f141 4).toArray[i]? with
 | some o=>o.after.toList.any fun e=>Region.binds .any e&&(match (dD Tryz.f141 4).toArray[e.on]? with|some q=>q.dst==some u|none=>false)
 | none=>false)=true
theorem p8.dep{w0:World}{b1 b5:Nat}{v2 v4 v5:Value}{listed:Array Bool}{a:Act}{w:World}(hI:p8 w0 b1 b5 v2 v4 v5 listed a w){i:Nat}(hi:i∈Region.ready .any (dD Tryz.f141 4).toArray listed){u:Nat}(h:qW i u):∃v,a.tmps[u]? =some v/\yc w v (iR u):=by
 unfold qW at h
 cases ho:(dD Tryz.f141 4).toArray[i]? with
 | none=>rw[ho]at h;cases h
 | some o=>
  rw[ho]at h;obtain⟨e,h1,h2⟩:=List.any_eq_true.1 h;rw[abG]at h2
  cases hq:(dD Tryz.f141 4).toArray[e.on]? with
  | none=>rw[hq]at h2;cases h2.2
  | some q=>
   rw[hq]at h2;refine hI.get hi (j:=e.on) (u:=u) (by rw[hq];exact congrArg some (eq_of_beq h2.2)) ?_;rw[ho];refine congrArg some (List.any_eq_true.2 ⟨e,h1,?_⟩);rw[h2.1,beq_self_eq_true];rfl
def SO(i:Nat)(d:Option Nat)(op:Op):Prop:=((dD Tryz.f141 4).toArray[i]?).map (fun o=>(o.dst,o.op,o.guard))=some (d,op,none)
def TX(i:Nat)(x:Operand)(p:ByteArray->Bool):Prop:=∀{w0:World}{b1 b5:Nat}{v2 v4 v5:Value}{listed:Array Bool}{a:Act}{w:World},p8 w0 b1 b5 v2 v4 v5 listed a w->i∈Region.ready .any (dD Tryz.f141 4).toArray listed->∃f c,a.eval x= .func (Fn.func f) #[] c/\oI w (.func (Fn.func f) #[] c) p
def KP(i:Nat)(x:Operand)(p:Int->Bool):Prop:=∀{w0:World}{b1 b5:Nat}{v2 v4 v5:Value}{listed:Array Bool}{a:Act}{w:World},p8 w0 b1 b5 v2 v4 v5 listed a w->i∈Region.ready .any (dD Tryz.f141 4).toArray listed->∃f c,a.eval x= .func (Fn.func f) #[] c/\jm w (.func (Fn.func f) #[] c) p
section
variable {i:Nat}
theorem TX.t(u:Nat)(p:ByteArray->Bool)(h:qW i u:=by unfold qW;kernel_rfl) (ht:iR u= .text p:=by rfl):TX i (.tmp u) p:=fun hI hi=>by
 obtain⟨v,hv,hT⟩:=hI.dep hi h;rw[ht]at hT;obtain⟨f,c,rfl⟩:=Nq hT;exact⟨f,c,uj hv,hT⟩
theorem TX.e:TX i (.func 194) eQ:=fun _ _=>⟨194,#[],rfl,aa8 _⟩
theorem TX.n:TX i (.func 196) je:=fun _ _=>⟨196,#[],rfl,X9 _⟩
theorem KP.t(u:Nat)(p:Int->Bool)(h:qW i u:=by unfold qW;kernel_rfl) (ht:iR u= .kind p:=by rfl):KP i (.tmp u) p:=fun hI hi=>by
 obtain⟨v,hv,hT⟩:=hI.dep hi h;rw[ht]at hT;obtain⟨f,c,rfl⟩:=FD hT;exact⟨f,c,uj hv,hT⟩
theorem KP.s:KP i (.func 197) kG:=fun _ _=>⟨197,#[],rfl,Yn _⟩
theorem KP.p:KP i (.func 198) jh:=fun _ _=>⟨198,#[],rfl,VT _⟩
theorem kB(t:Nat){x:Operand}{tp:ByteArray->Bool}(hx:TX i x tp)(so:SO i (some t) (Op.build 197 #[(0,x)]):=by unfold SO;kernel_rfl) (ht:iR t= .shape ⟨tp,[],none,0⟩:=by rfl) (hz:12<=t/\t<=117:=by decide) (hn:kD i=none/\i≠0/\i≠136/\i≠137:=by decide):jA i:=by
 intro w0 b1 b5 v2 v4 v5 listed a w Q hs hI hi;obtain⟨o,ho,hd,hop,hg⟩:=ma so;obtain⟨ft,ct,het,Rn⟩:=hx hI hi;refine ku hs hI hi ho hg hd hz hn (v:=.agg #[.func (Fn.func ft) #[] ct,.slice none 0 0,.nilFunc,.int .i64 0]) (w':=w) (by simp only[execOp,hop,List.map_toArray,List.map_cons,List.map_nil,het];go_simp) (Below.refl _ _) ?_;rw[ht];exact⟨_,_,_,_,rfl,Rn,(by intro i p h;simp at h),rfl⟩
theorem zk(t:Nat){x:Operand}{tp:ByteArray->Bool}(hx:TX i x tp)(u:Nat)(ps:List (Int->Bool))(h:qW i u:=by unfold qW;kernel_rfl) (hu:iR u= .qh ps:=by rfl) (so:SO i (some t) (Op.build 197 #[(0,x),(1,Operand.tmp u)]):=by unfold SO;kernel_rfl) (ht:iR t= .shape ⟨tp,ps,none,0⟩:=by rfl) (hz:12<=t/\t<=117:=by decide) (hn:kD i=none/\i≠0/\i≠136/\i≠137:=by decide):jA i:=by
 intro w0 b1 b5 v2 v4 v5 listed a w Q hs hI hi;obtain⟨o,ho,hd,hop,hg⟩:=ma so;obtain⟨ft,ct,het,Rn⟩:=hx hI hi;obtain⟨xk,hxk,hTk⟩:=hI.dep hi h;rw[hu]at hTk;obtain⟨A,c,rfl,hk⟩:=hTk;have hek:=uj hxk;refine ku hs hI hi ho hg hd hz hn (v:=.agg #[.func (Fn.func ft) #[] ct,.slice A ps.length c,.nilFunc,.int .i64 0]) (w':=w) (by simp only[execOp,hop,List.map_toArray,List.map_cons,List.map_nil,het];go_simp) (Below.refl _ _) ?_;rw[ht];exact⟨_,_,_,_,rfl,Rn,hk,rfl⟩
theorem Yl(t:Nat){x y:Operand}{tp:ByteArray->Bool}{p:Int->Bool}(hx:TX i x tp)(hy:KP i y p)(so:SO i (some t) (Op.build 197 #[(0,x),(2,y)]):=by unfold SO;kernel_rfl) (ht:iR t= .shape ⟨tp,[],some p,0⟩:=by rfl) (hz:12<=t/\t<=117:=by decide) (hn:kD i=none/\i≠0/\i≠136/\i≠137:=by decide):jA i:=by
 intro w0 b1 b5 v2 v4 v5 listed a w Q hs hI hi;obtain⟨o,ho,hd,hop,hg⟩:=ma so;obtain⟨ft,ct,het,Rn⟩:=hx hI hi;obtain⟨fl,cl,hel,hTl⟩:=hy hI hi;refine ku hs hI hi ho hg hd hz hn (v:=.agg #[.func (Fn.func ft) #[] ct,.slice none 0 0,.func (Fn.func fl) #[] cl,.int .i64 0]) (w':=w) (by simp only[execOp,hop,List.map_toArray,List.map_cons,List.map_nil,het,hel];go_simp) (Below.refl _ _) ?_;rw[ht];exact⟨_,_,_,_,rfl,Rn,(by intro i p h;simp at h),hTl⟩
theorem kBm(t:Nat){x y:Operand}{tp:ByteArray->Bool}{p:Int->Bool}(hx:TX i x tp)(hy:KP i y p)(so:SO i (some t) (Op.build 197 #[(0,x),(2,y),(3,Operand.const (Value.int IntKind.i64 1))]):=by unfold SO;kernel_rfl) (ht:iR t= .shape ⟨tp,[],some p,1⟩:=by rfl) (hz:12<=t/\t<=117:=by decide) (hn:kD i=none/\i≠0/\i≠136/\i≠137:=by decide):jA i:=by
 intro w0 b1 b5 v2 v4 v5 listed a w Q hs hI hi;obtain⟨o,ho,hd,hop,hg⟩:=ma so;obtain⟨ft,ct,het,Rn⟩:=hx hI hi;obtain⟨fl,cl,hel,hTl⟩:=hy hI hi;refine ku hs hI hi ho hg hd hz hn (v:=.agg #[.func (Fn.func ft) #[] ct,.slice none 0 0,.func (Fn.func fl) #[] cl,.int .i64 1]) (w':=w) (by simp only[execOp,hop,List.map_toArray,List.map_cons,List.map_nil,het,hel];go_simp) (Below.refl _ _) ?_;rw[ht];exact⟨_,_,_,_,rfl,Rn,(by intro i p h;simp at h),hTl⟩
theorem NJ(t:Nat){x0:Operand}{p0:Int->Bool}(h0:KP i x0 p0)(so:SO i (some t) (Op.buildSlice 195 1 #[(0,x0)]):=by unfold SO;kernel_rfl) (ht:iR t= .qh [p0]:=by rfl) (hz:12<=t/\t<=117:=by decide) (hn:kD i=none/\i≠0/\i≠136/\i≠137:=by decide):jA i:=by
 intro w0 b1 b5 v2 v4 v5 listed a w Q hs hI hi;obtain⟨o,ho,hd,hop,hg⟩:=ma so;obtain⟨f0,c0,he0,hT0⟩:=h0 hI hi;refine ku hs hI hi ho hg hd hz hn (v:=.slice (some ⟨w.heap.size,0,none⟩) 1 1) (w':=w.alloc (.cells #[.func (Fn.func f0) #[] c0] 54)) (by simp only[execOp,hop,List.map_toArray,List.map_cons,List.map_nil,he0];go_simp) (ag _ _) ?_;rw[ht];exact⟨_,_,rfl,JY w 54 [.func (Fn.func f0) #[] c0] [p0] (.cons hT0 .nil)⟩
theorem Yk(t:Nat){x0 x1:Operand}{p0 p1:Int->Bool}(h0:KP i x0 p0)(h1:KP i x1 p1)(so:SO i (some t) (Op.buildSlice 195 2 #[(0,x0),(1,x1)]):=by unfold SO;kernel_rfl) (ht:iR t= .qh [p0,p1]:=by rfl) (hz:12<=t/\t<=117:=by decide) (hn:kD i=none/\i≠0/\i≠136/\i≠137:=by decide):jA i:=by
 intro w0 b1 b5 v2 v4 v5 listed a w Q hs hI hi;obtain⟨o,ho,hd,hop,hg⟩:=ma so;obtain⟨f0,c0,he0,hT0⟩:=h0 hI hi;obtain⟨f1,c1,he1,hT1⟩:=h1 hI hi;refine ku hs hI hi ho hg hd hz hn (v:=.slice (some ⟨w.heap.size,0,none⟩) 2 2) (w':=w.alloc (.cells #[.func (Fn.func f0) #[] c0,.func (Fn.func f1) #[] c1] 54)) (by simp only[execOp,hop,List.map_toArray,List.map_cons,List.map_nil,he0,he1];go_simp) (ag _ _) ?_;rw[ht];exact⟨_,_,rfl,JY w 54 [.func (Fn.func f0) #[] c0,.func (Fn.func f1) #[] c1] [p0,p1] (.cons hT0 (.cons hT1 .nil))⟩
theorem kF3(t:Nat){x0 x1 x2:Operand}{p0 p1 p2:Int->Bool}(h0:KP i x0 p0)(h1:KP i x1 p1)(h2:KP i x2 p2)(so:SO i (some t) (Op.buildSlice 195 3 #[(0,x0),(1,x1),(2,x2)]):=by unfold SO;kernel_rfl) (ht:iR t= .qh [p0,p1,p2]:=by rfl) (hz:12<=t/\t<=117:=by decide) (hn:kD i=none/\i≠0/\i≠136/\i≠137:=by decide):jA i:=by
 intro w0 b1 b5 v2 v4 v5 listed a w Q hs hI hi;obtain⟨o,ho,hd,hop,hg⟩:=ma so;obtain⟨f0,c0,he0,hT0⟩:=h0 hI hi;obtain⟨f1,c1,he1,hT1⟩:=h1 hI hi;obtain⟨f2,c2,he2,p9⟩:=h2 hI hi;refine ku hs hI hi ho hg hd hz hn (v:=.slice (some ⟨w.heap.size,0,none⟩) 3 3) (w':=w.alloc (.cells #[.func (Fn.func f0) #[] c0,.func (Fn.func f1) #[] c1,.func (Fn.func f2) #[] c2] 54)) (by simp only[execOp,hop,List.map_toArray,List.map_cons,List.map_nil,he0,he1,he2];go_simp) (ag _ _) ?_;rw[ht];exact⟨_,_,rfl,JY w 54 [.func (Fn.func f0) #[] c0,.func (Fn.func f1) #[] c1,.func (Fn.func f2) #[] c2] [p0,p1,p2] (.cons hT0 (.cons hT1 (.cons p9 .nil)))⟩
theorem TQ(t:Nat)(a0:Int)(so:SO i (some t) (Op.buildSlice 28 1 #[(0,Operand.const (Value.int IntKind.i64 a0))]):=by unfold SO;kernel_rfl) (ht:iR t= .ints [a0]:=by rfl) (hz:12<=t/\t<=117:=by decide) (hn:kD i=none/\i≠0/\i≠136/\i≠137:=by decide):jA i:=by
 intro w0 b1 b5 v2 v4 v5 listed a w Q hs hI hi;obtain⟨o,ho,hd,hop,hg⟩:=ma so;refine ku hs hI hi ho hg hd hz hn (v:=.slice (some ⟨w.heap.size,0,none⟩) 1 1) (w':=w.alloc (.cells #[.int .i64 a0] 3)) (by simp only[execOp,hop];go_simp) (ag _ _) ?_;rw[ht];exact⟨_,_,rfl,JI w 3 [a0]⟩
theorem kI2(t:Nat)(a0 a1:Int)(so:SO i (some t) (Op.buildSlice 28 2 #[(0,Operand.const (Value.int IntKind.i64 a0)),(1,Operand.const (Value.int IntKind.i64 a1))]):=by unfold SO;kernel_rfl) (ht:iR t= .ints [a0,a1]:=by rfl) (hz:12<=t/\t<=117:=by decide) (hn:kD i=none/\i≠0/\i≠136/\i≠137:=by decide):jA i:=by
 intro w0 b1 b5 v2 v4 v5 listed a w Q hs hI hi;obtain⟨o,ho,hd,hop,hg⟩:=ma so;refine ku hs hI hi ho hg hd hz hn (v:=.slice (some ⟨w.heap.size,0,none⟩) 2 2) (w':=w.alloc (.cells #[.int .i64 a0,.int .i64 a1] 3)) (by simp only[execOp,hop];go_simp) (ag _ _) ?_;rw[ht];exact⟨_,_,rfl,JI w 3 [a0,a1]⟩
theorem kS2(t:Nat)(a0 a1:ByteArray)(so:SO i (some t) (Op.buildSlice 41 2 #[(0,Operand.const (Value.string a0)),(1,Operand.const (Value.string a1))]):=by unfold SO;kernel_rfl) (ht:iR t= .strs [a0,a1]:=by rfl) (hz:12<=t/\t<=117:=by decide) (hn:kD i=none/\i≠0/\i≠136/\i≠137:=by decide):jA i:=by
 intro w0 b1 b5 v2 v4 v5 listed a w Q hs hI hi;obtain⟨o,ho,hd,hop,hg⟩:=ma so;refine ku hs hI hi ho hg hd hz hn (v:=.slice (some ⟨w.heap.size,0,none⟩) 2 2) (w':=w.alloc (.cells #[.string a0,.string a1] 9)) (by simp only[execOp,hop];go_simp) (ag _ _) ?_;rw[ht];exact⟨_,_,rfl,Bv w 9 [a0,a1]⟩
theorem kL(t:Nat)  (so:SO i (some t) (Op.load 99 (Operand.tmp 1)):=by unfold SO;kernel_rfl) (ht:iR t= .text cO:=by rfl) (hz:12<=t/\t<=117:=by decide) (hn:kD i=none/\i≠0/\i≠136/\i≠137:=by decide):jA i:=by
 intro w0 b1 b5 v2 v4 v5 listed a w Q hs hI hi;obtain⟨o,ho,hd,hop,hg⟩:=ma so;have ht1:=hI.t1;have hc:w.cell? ⟨b1,0,none⟩=some (.func (Fn.func 53) #[] #[]):=hI.k1.cell 0;refine ku hs hI hi ho hg hd hz hn (v:=.func (Fn.func 53) #[] #[]) (w':=w) (by simp only[execOp,hop];go_simp) (Below.refl _ _) ?_;rw[ht];exact TM w
theorem kM2(t:Nat)  (so:SO i (some t) (Op.move (Operand.tmp 2)):=by unfold SO;kernel_rfl) (ht:iR t= .kind (bR [11]):=by rfl) (hz:12<=t/\t<=117:=by decide) (hn:kD i=none/\i≠0/\i≠136/\i≠137:=by decide):jA i:=by
 intro w0 b1 b5 v2 v4 v5 listed a w Q hs hI hi;obtain⟨o,ho,hd,hop,hg⟩:=ma so;have ht2:=hI.t2;refine ku hs hI hi ho hg hd hz hn (v:=v2) (w':=w) (by simp only[execOp,hop];go_simp) (Below.refl _ _) ?_;rw[ht];exact hI.k2
theorem Aq(t:Nat)  (so:SO i (some t) (Op.move (Operand.tmp 3)):=by unfold SO;kernel_rfl) (ht:iR t= .kind (aP):=by rfl) (hz:12<=t/\t<=117:=by decide) (hn:kD i=none/\i≠0/\i≠136/\i≠137:=by decide):jA i:=by
 intro w0 b1 b5 v2 v4 v5 listed a w Q hs hI hi;obtain⟨o,ho,hd,hop,hg⟩:=ma so;have ht3:=hI.t3;refine ku hs hI hi ho hg hd hz hn (v:=.func (Fn.func 190) #[] #[]) (w':=w) (by simp only[execOp,hop];go_simp) (Below.refl _ _) ?_;rw[ht];exact Yo w
theorem kM4(t:Nat)  (so:SO i (some t) (Op.move (Operand.tmp 4)):=by unfold SO;kernel_rfl) (ht:iR t= .kind (gG di):=by rfl) (hz:12<=t/\t<=117:=by decide) (hn:kD i=none/\i≠0/\i≠136/\i≠137:=by decide):jA i:=by
 intro w0 b1 b5 v2 v4 v5 listed a w Q hs hI hi;obtain⟨o,ho,hd,hop,hg⟩:=ma so;have ht4:=hI.t4;refine ku hs hI hi ho hg hd hz hn (v:=v4) (w':=w) (by simp only[execOp,hop];go_simp) (Below.refl _ _) ?_;rw[ht];exact hI.k4
theorem kO(t u:Nat)(l:List Int)(so:SO i (some t) (Op.call { callee:=Callee.value (Operand.func 189),args:=#[Operand.tmp u],argTypes:=#[28] }):=by unfold SO;kernel_rfl) (h:qW i u:=by unfold qW;kernel_rfl) (hu:iR u= .ints l:=by rfl) (ht:iR t= .kind (bR l):=by rfl) (hl:l.length<=1000000:=by decide) (hz:12<=t/\t<=117:=by decide) (hn:kD i=none/\i≠0/\i≠136/\i≠137:=by decide):jA i:=by
 intro w0 b1 b5 v2 v4 v5 listed a w Q hs hI hi;obtain⟨o,ho,hd,hop,hg⟩:=ma so;obtain⟨v,hv,hT⟩:=hI.dep hi h;rw[hu]at hT;obtain⟨A,c,rfl,hr⟩:=hT;have he:=uj hv;refine Ff hs hI hi ho hg hd hz hn (f:=189) (args:=#[.slice A l.length c]) (by simp only[execOp,hop];go_simp) ?_;rw[ht];exact TI A l.length c l w hr rfl hl
theorem kW(t u:Nat)(l:List ByteArray)(so:SO i (some t) (Op.call { callee:=Callee.value (Operand.func 193),args:=#[Operand.tmp u],argTypes:=#[41] }):=by unfold SO;kernel_rfl) (h:qW i u:=by unfold qW;kernel_rfl) (hu:iR u= .strs l:=by rfl) (ht:iR t= .text (mU l):=by rfl) (hl:l.length<=1000000:=by decide) (hz:12<=t/\t<=117:=by decide) (hn:kD i=none/\i≠0/\i≠136/\i≠137:=by decide):jA i:=by
 intro w0 b1 b5 v2 v4 v5 listed a w Q hs hI hi;obtain⟨o,ho,hd,hop,hg⟩:=ma so;obtain⟨v,hv,hT⟩:=hI.dep hi h;rw[hu]at hT;obtain⟨A,c,rfl,hr⟩:=hT;have he:=uj hv;refine Ff hs hI hi ho hg hd hz hn (f:=193) (args:=#[.slice A l.length c]) (by simp only[execOp,hop];go_simp) ?_;rw[ht];exact Pg A l.length c l w hr rfl hl
theorem kQ(t u:Nat)(p:Int->Bool)(so:SO i (some t) (Op.call { callee:=Callee.value (Operand.func 191),args:=#[Operand.tmp u],argTypes:=#[54] }):=by unfold SO;kernel_rfl) (h:qW i u:=by unfold qW;kernel_rfl) (hu:iR u= .kind p:=by rfl) (ht:iR t= .kind (gG p):=by rfl) (hz:12<=t/\t<=117:=by decide) (hn:kD i=none/\i≠0/\i≠136/\i≠137:=by decide):jA i:=by
 intro w0 b1 b5 v2 v4 v5 listed a w Q hs hI hi;obtain⟨o,ho,hd,hop,hg⟩:=ma so;obtain⟨v,hv,hT⟩:=hI.dep hi h;rw[hu]at hT;have he:=uj hv;refine Ff hs hI hi ho hg hd hz hn (f:=191) (args:=#[v]) (by simp only[execOp,hop];go_simp) ?_;rw[ht];exact EG v p w hT
theorem kN(k:Int)(u:Nat)(so:SO i none (Op.insert 191 (Operand.tmp 11) (Operand.const (Value.int IntKind.i64 k)) (Operand.tmp u)):=by unfold SO;kernel_rfl) (h:qW i u:=by unfold qW;kernel_rfl) (hn:kD i=some k:=by rfl) (h0:((dD Tryz.f141 4).toArray[i]?).map (fun o=>o.after.toList.any fun e=>Region.binds .any e&&(e.on==0))=some true:=by kernel_rfl) (hsh:(lK k).map Tg.shape=some (iR u):=by rfl):jA i:=by
 intro w0 b1 b5 v2 v4 v5 listed a w Q hs hI hi;obtain⟨o,ho,hd,hop,hg⟩:=ma so;obtain⟨v,hv,hT⟩:=hI.dep hi h;exact ZW hs hI hi ho hg hd hop hn (uj hv) (zM hi h0) hsh hT
end
theorem so_0:((dD Tryz.f141 4).toArray[0]?).map (fun o=>(o.dst,o.op,o.guard))=some (some 11,Op.makeMap 191 none,none):=by kernel_rfl
theorem so_40:((dD Tryz.f141 4).toArray[40]?).map (fun o=>(o.dst,o.op,o.guard))=some (some 43,Op.makeFunc (Fn.func 195) #[] #[Operand.tmp 5,Operand.tmp 1],none):=by kernel_rfl
theorem op_40:jA 40:=by
 intro w0 b1 b5 v2 v4 v5 listed a w Q hs hI hi;obtain⟨o,ho,hd,hop,hg⟩:=ma so_40;have ht1:=hI.t1;have ht5:=hI.t5;exact ku hs hI hi ho hg hd (by decide) (by decide) (v:=.func (Fn.func 195) #[] #[.pointer (some ⟨b5,0,none⟩),.pointer (some ⟨b1,0,none⟩)]) (w':=w) (by simp only[execOp,hop];go_simp) (Below.refl _ _) (Y4 w b5 b1 v5 _ _ _ hI.q5 (TM w) hI.k5 hI.k1)
theorem so_129:((dD Tryz.f141 4).toArray[129]?).map (fun o=>(o.dst,o.op,o.guard))=some (some 112,Op.buildSlice 41 13 #[(0,Operand.const (Value.string { data:=#[111,114] })),(1,Operand.const (Value.string { data:=#[97,110,100] })),(2,Operand.const (Value.string { data:=#[61,61] })),(3,Operand.const (Value.string { data:=#[33,61] })),(4,Operand.const (Value.string { data:=#[60] })),(5,Operand.const (Value.string { data:=#[60,61] })),(6,Operand.const (Value.string { data:=#[62] })),(7,Operand.const (Value.string { data:=#[62,61] })),(8,Operand.const (Value.string { data:=#[43] })),(9,Operand.const (Value.string { data:=#[45] })),(10,Operand.const (Value.string { data:=#[42] })),(11,Operand.const (Value.string { data:=#[47] })),(12,Operand.const (Value.string { data:=#[37] }))],none):=by kernel_rfl
theorem op_129:jA 129:=by
 intro w0 b1 b5 v2 v4 v5 listed a w Q hs hI hi;obtain⟨o,ho,hd,hop,hg⟩:=ma so_129;refine ku hs hI hi ho hg hd (by decide) (by decide) (v:=.slice (some ⟨w.heap.size,0,none⟩) 13 13) (w':=w.alloc (.cells #[.string ⟨#[111,114]⟩,.string ⟨#[97,110,100]⟩,.string ⟨#[61,61]⟩,.string ⟨#[33,61]⟩,.string ⟨#[60]⟩,.string ⟨#[60,61]⟩,.string ⟨#[62]⟩,.string ⟨#[62,61]⟩,.string ⟨#[43]⟩,.string ⟨#[45]⟩,.string ⟨#[42]⟩,.string ⟨#[47]⟩,.string ⟨#[37]⟩] 9)) (by simp only[execOp,hop];go_simp) (ag _ _) ?_;exact⟨_,_,rfl,Bv w 9 Bb⟩
theorem so_136:((dD Tryz.f141 4).toArray[136]?).map (fun o=>(o.dst,o.op,o.guard))=some (some 118,Op.move (Operand.tmp 11),none):=by kernel_rfl
theorem so_137:((dD Tryz.f141 4).toArray[137]?).map (fun o=>(o.dst,o.op,o.guard))=some (some 0,Op.assign (Operand.tmp 118),none):=by kernel_rfl
end Go.Proofs.YtoepemlnlpamlaaGreat
