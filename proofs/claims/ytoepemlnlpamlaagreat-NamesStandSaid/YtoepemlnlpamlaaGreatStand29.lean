/- The law NamesStand holds: for every text and every number the law returns true, and its arguments read as before. No condition. Part 29: Shp4 Shp4i. -/
import Derived.Test.YtoepemlnlpamlaaGreatStand28
set_option maxRecDepth 100000
set_option maxHeartbeats 4000000
namespace Go.Proofs.YtoepemlnlpamlaaGreat
open Go.RowKit
def Br:Nat->Tg
 | 0=>.any
 | 11=>.any
 | 12=>.shape ⟨jT,[],none,0⟩
 | 13=>.ints [3,5]
 | 14=>.kind (dH [3,5])
 | 15=>.shape ⟨jT,[],some (dH [3,5]),0⟩
 | 16=>.text dJ
 | 17=>.ints [4]
 | 18=>.kind (dH [4])
 | 19=>.shape ⟨dJ,[],some (dH [4]),1⟩
 | 20=>.text dJ
 | 21=>.ints [9]
 | 22=>.kind (dH [9])
 | 23=>.sO [dH [9]]
 | 24=>.shape ⟨dJ,[dH [9]],none,0⟩
 | 25=>.text dJ
 | 26=>.ints [6]
 | 27=>.kind (dH [6])
 | 28=>.kind (jm eQ)
 | 29=>.kind (dH [11])
 | 30=>.sO [dH [6],jm eQ,dH [11]]
 | 31=>.shape ⟨dJ,[dH [6],jm eQ,dH [11]],none,0⟩
 | 32=>.ints [7,8]
 | 33=>.kind (dH [7,8])
 | 34=>.shape ⟨jT,[],some (dH [7,8]),0⟩
 | 35=>.text dJ
 | 36=>.kind (jm eQ)
 | 37=>.sO [jm eQ]
 | 38=>.shape ⟨dJ,[jm eQ],none,0⟩
 | 39=>.text dJ
 | 40=>.kind (jm eQ)
 | 41=>.sO [jm eQ]
 | 42=>.shape ⟨dJ,[jm eQ],none,0⟩
 | 43=>.text XW
 | 44=>.shape ⟨XW,[],none,0⟩
 | 45=>.shape ⟨qA,[],none,0⟩
 | 46=>.shape ⟨jT,[],some uy,0⟩
 | 47=>.text dJ
 | 48=>.kind (jm eQ)
 | 49=>.kind (bA)
 | 50=>.sO [jm eQ,bA]
 | 51=>.shape ⟨dJ,[jm eQ,bA],none,0⟩
 | 52=>.kind (bA)
 | 53=>.sO [nH,bA]
 | 54=>.shape ⟨jT,[nH,bA],none,0⟩
 | 55=>.kind (bA)
 | 56=>.kind (dH [11])
 | 57=>.ints [11,14]
 | 58=>.kind (dH [11,14])
 | 59=>.kind (jm (dH [11,14]))
 | 60=>.sO [bA,dH [11],jm (dH [11,14])]
 | 61=>.shape ⟨jT,[bA,dH [11],jm (dH [11,14])],none,0⟩
 | 62=>.kind (bA)
 | 63=>.kind (dH [11])
 | 64=>.sO [bA,dH [11]]
 | 65=>.shape ⟨jT,[bA,dH [11]],none,0⟩
 | 66=>.text dJ
 | 67=>.kind (bA)
 | 68=>.kind (bA)
 | 69=>.kind (dH [11])
 | 70=>.sO [bA,bA,dH [11]]
 | 71=>.shape ⟨dJ,[bA,bA,dH [11]],none,0⟩
 | 72=>.kind (bA)
 | 73=>.kind (jm (bA))
 | 74=>.sO [jm (bA)]
 | 75=>.shape ⟨jT,[jm (bA)],none,0⟩
 | 76=>.kind (bA)
 | 77=>.sO [bA]
 | 78=>.shape ⟨jT,[bA],none,0⟩
 | 79=>.text dJ
 | 80=>.kind (bA)
 | 81=>.shape ⟨dJ,[],some (bA),0⟩
 | 82=>.text dJ
 | 83=>.shape ⟨dJ,[],none,0⟩
 | 84=>.ints [20]
 | 85=>.kind (dH [20])
 | 86=>.kind (bA)
 | 87=>.sO [dH [20],bA]
 | 88=>.shape ⟨jT,[dH [20],bA],none,0⟩
 | 89=>.text dJ
 | 90=>.ints [20]
 | 91=>.kind (dH [20])
 | 92=>.sO [dH [20]]
 | 93=>.shape ⟨dJ,[dH [20]],none,0⟩
 | 94=>.ints [20]
 | 95=>.kind (dH [20])
 | 96=>.sO [dH [20]]
 | 97=>.shape ⟨jT,[dH [20]],none,0⟩
 | 98=>.shape ⟨qA,[],none,0⟩
 | 99=>.strs BJ
 | 100=>.text (wm BJ)
 | 101=>.shape ⟨(wm BJ),[],none,0⟩
 | 102=>.kind (bA)
 | 103=>.shape ⟨jT,[],some (bA),1⟩
 | 104=>.text dJ
 | 105=>.kind (bA)
 | 106=>.shape ⟨dJ,[],some (bA),0⟩
 | 107=>.strs LZ
 | 108=>.text (wm LZ)
 | 109=>.kind (bA)
 | 110=>.sO [bA]
 | 111=>.shape ⟨(wm LZ),[bA],none,0⟩
 | 112=>.strs FD
 | 113=>.text (wm FD)
 | 114=>.kind (bA)
 | 115=>.kind (bA)
 | 116=>.sO [bA,bA]
 | 117=>.shape ⟨(wm FD),[bA,bA],none,0⟩
 | 118=>.any
 | _=>.any
def BB:Nat->Option Int
 | 2=>some 0
 | 6=>some 2
 | 11=>some 3
 | 17=>some 4
 | 25=>some 5
 | 29=>some 6
 | 34=>some 7
 | 39=>some 8
 | 42=>some 9
 | 44=>some 10
 | 46=>some 11
 | 52=>some 12
 | 56=>some 13
 | 64=>some 14
 | 69=>some 15
 | 76=>some 16
 | 81=>some 17
 | 85=>some 18
 | 89=>some 19
 | 92=>some 20
 | 98=>some 21
 | 104=>some 22
 | 109=>some 23
 | 111=>some 24
 | 115=>some 25
 | 118=>some 26
 | 122=>some 27
 | 128=>some 28
 | 135=>some 29
 | _=>none
def MapI(w0:World)(listed:Array Bool)(a:Act)(w:World):Prop:=
 listed.getD 0 false=true->∃r m,a.tmps[11]? =some (.map (some r))/\w0.heap.size<=r/\aY iN w r m/\(∀x∈m,∃sh,lZ x.1=some sh/\qC w x.2 sh) /\
  (∀i k,BB i=some k->listed.getD i false=true->(nP m k).isSome=true)/\(listed.getD 136 false=true->a.tmps[118]? =some (.map (some r)))/\(listed.getD 137 false=true->a.tmps[0]? =some (.map (some r)))
structure sU (w0:World) (b1 b5:Nat) (v2 v4 v5:Value) (listed:Array Bool) (a:Act) (w:World):Prop where
 size:a.tmps.size=119
 t1:a.tmps[1]? =some (.pointer (some ⟨b1,0,none⟩))
 t2:a.tmps[2]? =some v2
 t3:a.tmps[3]? =some (.func (Fn.func 190) #[] #[])
 t4:a.tmps[4]? =some v4
 t5:a.tmps[5]? =some (.pointer (some ⟨b5,0,none⟩))
 k1:ak w b1 99 #[.func (Fn.func 53) #[] #[]]
 k2:jU w v2 (dH [11])
 k4:jU w v4 (jm eQ)
 k5:ak w b5 99 #[v5]
 q5:qj w v5 (wm F4)
 tmp:DD (aG Tryz.f141 4).toArray (fun t w v=>y7 w v (Br t)) listed a w
 oH:MapI w0 listed a w
 ord:∀i,(BB i≠none\/i=136\/i=137)->listed.getD i false=true->listed.getD 0 false=true
 below:Below w0.heap.size w0 w
 defers:a.defers=[]
theorem aS{i:Nat}{d:Option Nat}{op:Op}(h:((aG Tryz.f141 4).toArray[i]?).map (fun o=>(o.dst,o.op,o.guard))=some (d,op,none)):∃o,(aG Tryz.f141 4).toArray[i]? =some o/\o.dst=d/\o.op=op/\o.guard=none:=by
 cases ho:(aG Tryz.f141 4).toArray[i]? with
 | none=>rw[ho]at h;cases h
 | some o=>
  rw[ho]at h;simp only[Option.map_some,aag,Prod.mk.injEq]at h;exact⟨o,rfl,h.1,h.2.1,h.2.2⟩
theorem sU.get{w0:World}{b1 b5:Nat}{v2 v4 v5:Value}{listed:Array Bool}{a:Act}{w:World}(hI:sU w0 b1 b5 v2 v4 v5 listed a w){i:Nat}(hi:i∈Region.ready .any (aG Tryz.f141 4).toArray listed){j u:Nat}
 (hj:((aG Tryz.f141 4).toArray[j]?).map (fun o=>o.dst)=some (some u)) (hdep:((aG Tryz.f141 4).toArray[i]?).map (fun o=>o.after.toList.any fun e=>Region.binds .any e&&(e.on==j))=some true):∃v,a.tmps[u]? =some v/\y7 w v (Br u):=by
 cases ho:(aG Tryz.f141 4).toArray[j]? with
 | none=>rw[ho]at hj;cases hj
 | some o=>
  rw[ho]at hj;simp only[Option.map_some,aag]at hj;exact hI.tmp j o u ho hj (dE hi hdep)
def Vi(ops:List Oper):Bool:=(List.range ops.length).all fun i=>match ops[i]? with|some o=>o.after.toList.all fun e=>decide (e.on<i)|none=>true
def Yt(ops:List Oper):Bool:=(List.range ops.length).all fun i=>match ops[i]? with|some o=>(match o.dst with|some t=>ops.findIdx (fun x=>x.dst==some t)==i|none=>true)|none=>true
theorem acyc_of{ops:List Oper}(h:Vi ops=true):∀(i:Nat) (o:Oper),ops.toArray[i]? =some o->∀e∈o.after,e.on<i:=by
 intro i o ho e he;have hi:=(aae.1 ho).1;unfold Vi at h;rw[List.all_eq_true]at h;have h1:=h i (by simpa using hi);rw[show ops[i]? =some o by simpa using ho]at h1;simp only[List.all_eq_true,decide_eq_true_eq]at h1;exact h1 e (by simpa using he)
theorem J3{ops:List Oper}(h:Yt ops=true):∀(i j:Nat) (o o':Oper) (t:Nat),ops.toArray[i]? =some o->ops.toArray[j]? =some o'->o.dst=some t->o'.dst=some t->i=j:=by
 have key:∀(i:Nat) (o:Oper) (t:Nat),ops.toArray[i]? =some o->o.dst=some t->ops.findIdx (fun x=>x.dst==some t)=i:=by
  intro i o t ho hd;have hi:=(aae.1 ho).1;unfold Yt at h;rw[List.all_eq_true]at h;have h1:=h i (by simpa using hi);rw[show ops[i]? =some o by simpa using ho]at h1;simp only[hd,beq_iff_eq]at h1;exact h1
 intro i j o o' t hi hj hd hd';rw[<- key i o t hi hd,<- key j o' t hj hd']
theorem sh_acyc:Vi (aG Tryz.f141 4)=true:=by kernel_rfl
theorem Jz:Yt (aG Tryz.f141 4)=true:=by kernel_rfl
theorem zH{P:Program}{ops:Array Oper}{Q:Exit->Act->World->Prop}{i:Nat}{o:Oper}{a:Act}{w:World}{K:Act->World->Prop}(ho:ops[i]? =some o)(hg:o.guard=none)(h:o.wp P a w K Q):wpOp P ops Q i K a w:=by
 unfold wpOp;simp only[ho];rw[if_pos (by simp[Region.wanted,hg])];exact .inl h
theorem fC{listed:Array Bool}{i j:Nat}(hne:j≠i):(listed.setIfInBounds i true).getD j false=listed.getD j false:=by
 simp[Array.getD_eq_getD_getElem?,Array.getElem?_setIfInBounds_ne (Ne.symm hne)]
theorem sU.put{w0:World}{b1 b5:Nat}{v2 v4 v5:Value}{listed:Array Bool}{a:Act}{w w':World}(hI:sU w0 b1 b5 v2 v4 v5 listed a w)(hs:listed.size=(aG Tryz.f141 4).toArray.size){i:Nat}{o:Oper}{t:Nat}{v:Value}
 (ho:(aG Tryz.f141 4).toArray[i]? =some o) (hd:o.dst=some t) (ht:12<=t/\t<=117) (hins:BB i=none/\i≠0/\i≠136/\i≠137) (hb:Below w.heap.size w w') (hv:y7 w' v (Br t)):
 sU w0 b1 b5 v2 v4 v5 (listed.setIfInBounds i true) (a.put o.dst v) w':=by
 have hk:=KC.of_below hb
 have hp:∀u,u≠t->(a.put o.dst v).tmps[u]? =a.tmps[u]? :=fun u hu=>by
  rw[hd];show(a.tmps.setIfInBounds t v)[u]? =_;rw[Array.getElem?_setIfInBounds_ne (Ne.symm hu)]
 refine⟨?_,(hp 1 (by omega)).trans hI.t1,(hp 2 (by omega)).trans hI.t2,(hp 3 (by omega)).trans hI.t3,(hp 4 (by omega)).trans hI.t4,(hp 5 (by omega)).trans hI.t5,hk.blk hI.k1,hI.k2.kc hk hb.size,hI.k4.kc hk hb.size,hk.blk hI.k5,hI.q5.kc hk hb.size,?_,?_,?_,hI.below.trans (hb.mono hI.below.size),?_⟩
 ·rw[hd]
  show(a.tmps.setIfInBounds t v).size=119;simpa using hI.size
 ·exact hI.tmp.put hs (fun t v h=>y7.kc hk hb.size h) (J3 Jz) ho hd (by rw[hI.size];omega) hv
 ·intro h0
  rw[fC (Ne.symm hins.2.1)]at h0;obtain⟨r,m,h1,h2,h3,h4,h5,h6,h7⟩:=hI.oH h0;refine⟨r,m,(hp 11 (by omega)).trans h1,h2,h3.below hb h3.lt,fun x hx=>?_,fun j k hj hl=>?_,fun hl=>?_,fun hl=>?_⟩
  ·obtain⟨sh,h8,h9⟩:=h4 x hx
   exact⟨sh,h8,h9.kc hk hb.size⟩
  ·have hne:j≠i:=by rintro rfl;rw[hins.1]at hj;cases hj
   rw[fC hne]at hl;exact h5 j k hj hl
  ·rw[fC (Ne.symm hins.2.2.1)]at hl
   exact(hp 118 (by omega)).trans (h6 hl)
  ·rw[fC (Ne.symm hins.2.2.2)]at hl
   exact(hp 0 (by omega)).trans (h7 hl)
 ·intro j hj hl
  have hne:j≠i:=by
   rintro rfl;rcases hj with hj|hj|hj
   ·exact hj hins.1
   ·exact hins.2.2.1 hj
   ·exact hins.2.2.2 hj
  rw[fC hne]at hl;rw[fC (Ne.symm hins.2.1)];exact hI.ord j hj hl
 ·rw[hd]
  exact hI.defers
def aN(i:Nat):Prop:=∀(w0:World) (b1 b5:Nat) (v2 v4 v5:Value) (listed:Array Bool) (a:Act) (w:World) (Q:Exit->Act->World->Prop),listed.size=(aG Tryz.f141 4).toArray.size->sU w0 b1 b5 v2 v4 v5 listed a w->i∈Region.ready .any (aG Tryz.f141 4).toArray listed ->
 wpOp Tryz.prog (aG Tryz.f141 4).toArray Q i (sU w0 b1 b5 v2 v4 v5 (listed.setIfInBounds i true)) a w
theorem aQ{w0:World}{b1 b5:Nat}{v2 v4 v5:Value}{listed:Array Bool}{a:Act}{w:World}{Q:Exit->Act->World->Prop}(hs:listed.size=(aG Tryz.f141 4).toArray.size)(hI:sU w0 b1 b5 v2 v4 v5 listed a w){i:Nat}{o:Oper}{t:Nat}
 (_hi:i∈Region.ready .any (aG Tryz.f141 4).toArray listed) (ho:(aG Tryz.f141 4).toArray[i]? =some o) (hg:o.guard=none) (hd:o.dst=some t) (ht:12<=t/\t<=117) (hins:BB i=none/\i≠0/\i≠136/\i≠137)
 {v:Value}{w':World}(hrun:(execOp a.eval o).run Tryz.prog w= .ok (.value v) w') (hb:Below w.heap.size w w') (hv:y7 w' v (Br t)):
 wpOp Tryz.prog (aG Tryz.f141 4).toArray Q i (sU w0 b1 b5 v2 v4 v5 (listed.setIfInBounds i true)) a w:=by
 refine zH (o:=o) ho hg ?_;unfold Oper.wp;rw[hrun,Oper.upon_value];exact hI.put hs ho hd ht hins hb hv
theorem kZ{w0:World}{b1 b5:Nat}{v2 v4 v5:Value}{listed:Array Bool}{a:Act}{w:World}{Q:Exit->Act->World->Prop}(hs:listed.size=(aG Tryz.f141 4).toArray.size)(hI:sU w0 b1 b5 v2 v4 v5 listed a w){i:Nat}{o:Oper}{t:Nat}
 (_hi:i∈Region.ready .any (aG Tryz.f141 4).toArray listed) (ho:(aG Tryz.f141 4).toArray[i]? =some o) (hg:o.guard=none) (hd:o.dst=some t) (ht:12<=t/\t<=117) (hins:BB i=none/\i≠0/\i≠136/\i≠137)
 {f:Nat}{args:Array Value}(hrun:(execOp a.eval o).run Tryz.prog w= .ok (.enter f args) w) (hc:Calls Tryz.prog f args w fun e w'=> ∃v,e= .returned v/\y7 w' v (Br t)/\Below w.heap.size w w'):
 wpOp Tryz.prog (aG Tryz.f141 4).toArray Q i (sU w0 b1 b5 v2 v4 v5 (listed.setIfInBounds i true)) a w:=by
 refine zH (o:=o) ho hg ?_;unfold Oper.wp;rw[hrun,Oper.upon_enter];refine hc.mono ?_;rintro e w' ⟨v,rfl,hv,hb⟩;exact hI.put hs ho hd ht hins hb hv
theorem qP(w:World)(ty:TypeId)(l:List Int):df 1 iO (w.alloc (.cells (l.map fun i=>Value.int .i64 i).toArray ty)) (w.alloc (.cells (l.map fun i=>Value.int .i64 i).toArray ty)).heap.size (some ⟨w.heap.size,0,none⟩) l:=by
 intro k c hk;refine⟨w.heap.size,0,rfl,by simp,fun j v hj=>?_⟩;have hb:=ak.new w ty (l.map fun i=>Value.int .i64 i).toArray;rw[hb.cell]
 cases j with
 | zero=>
  simp[iO]at hj;subst hj;simp[hk]
 | succ j=>simp[iO]at hj
theorem Bu(w:World)(ty:TypeId)(l:List ByteArray):df 1 fP (w.alloc (.cells (l.map fun i=>Value.string i).toArray ty)) (w.alloc (.cells (l.map fun i=>Value.string i).toArray ty)).heap.size (some ⟨w.heap.size,0,none⟩) l:=by
 intro k c hk;refine⟨w.heap.size,0,rfl,by simp,fun j v hj=>?_⟩;have hb:=ak.new w ty (l.map fun i=>Value.string i).toArray;rw[hb.cell]
 cases j with
 | zero=>
  simp[fP]at hj;subst hj;simp[hk]
 | succ j=>simp[fP]at hj
inductive Jo (w:World):List Value->List (Int->Bool)->Prop where
 | nil:Jo w [] []
 | cons {v:Value}{p:Int->Bool}{vs:List Value}{ps:List (Int->Bool)}:jU w v p->Jo w vs ps->Jo w (v::vs) (p::ps)
theorem Jo.get{w:World}:∀{vs:List Value}{ps:List (Int->Bool)},Jo w vs ps->∀(i:Nat) (p:Int->Bool),ps[i]? =some p->∃v,vs[i]? =some v/\jU w v p
 | _,_,.nil,i,p,h=>by simp at h
 | _,_,.cons h1 h2,0,p,h=>by
  simp at h;subst h;exact⟨_,rfl,h1⟩
 | _,_,.cons h1 h2,i+1,p,h=>by
  obtain⟨v,h3,h4⟩:=Jo.get h2 i p (by simpa using h);exact⟨v,by simpa using h3,h4⟩
theorem kY(w:World)(ty:TypeId)(vs:List Value)(ps:List (Int->Bool))(h:Jo w vs ps):Gj (w.alloc (.cells vs.toArray ty)) (some ⟨w.heap.size,0,none⟩) ps:=by
 intro i p hp;obtain⟨v,h1,h2⟩:=h.get i p hp;refine⟨w.heap.size,0,v,rfl,?_,h2.below (ae _ _)⟩;have hb:=ak.new w ty vs.toArray;rw[hb.cell];simpa using h1
theorem dI{w:World}{v:Value}{p:Int->Bool}(h:jU w v p):∃fn cap,v= .func (Fn.func fn) #[] cap:=by
 obtain⟨fn,cap,rfl,-⟩:=h;exact⟨fn,cap,rfl⟩
theorem jM{w:World}{v:Value}{p:ByteArray->Bool}(h:qj w v p):∃fn cap,v= .func (Fn.func fn) #[] cap:=by
 obtain⟨fn,cap,rfl,-⟩:=h;exact⟨fn,cap,rfl⟩
section
variable {K:Type} [DecidableEq K]
theorem OI(k:K):∀(m:List (K×Value)) (i:Nat),(mJ k m i).isSome=true↔k∈m.map (·.1)
 | [],i=>by simp[mJ]
 | x::m,i=>by
  simp only[mJ,List.map_cons,List.mem_cons];by_cases h:k=x.1
  ·simp[h]
  ·rw[if_neg h,OI k m (i+1)]
   simp[h]
theorem Mr{m:List (K×Value)}{k:K}:(nP m k).isSome=true↔k∈m.map (·.1):=by
 unfold nP;rw[Option.isSome_map];exact OI k m 0
theorem Wj{m:List (K×Value)}{k:K}{v:Value}(h:nP m k=some v):(k,v)∈m:=by
 unfold nP at h
 cases hp:mJ k m 0 with
 | none=>rw[hp]at h;cases h
 | some x=>
  obtain⟨i,u⟩:=x;rw[hp]at h;simp at h;subst h;obtain⟨n,h1,h2⟩:=F7 k m 0 i u hp;exact aan h2
theorem Ye{m:List (K×Value)}{k:K}{v:Value}{x:K×Value}(h:x∈qM m k v):x∈m\/x=(k,v):=by
 unfold qM at h;split at h
 ·simp at h
  exact h
 ·rename_i i u hp
  rw[List.mem_iff_getElem?]at h;obtain⟨j,hj⟩:=h;rw[List.getElem?_modify]at hj
  cases hm:m[j]? with
  | none=>rw[hm]at hj;simp at hj
  | some y=>
   rw[hm]at hj;simp at hj;split at hj
   ·exact .inr hj.symm
   ·exact .inl (by rw[<- hj];exact aan hm)
theorem Me{m:List (K×Value)}{k:K}{v:Value}:k∈(qM m k v).map (·.1)/\∀j∈m.map (·.1),j∈(qM m k v).map (·.1):=by
 unfold qM;split
 ·simp
  intro j x hx;exact .inl ⟨x,hx⟩
 ·rename_i i u hp
  obtain⟨n,h1,h2⟩:=F7 k m 0 i u hp;have hn:i=n:=by omega
  subst hn
  have hk:(m.modify i fun _=>(k,v)).map (·.1)=m.map (·.1):=by
   apply List.ext_getElem?
   intro j;rw[List.getElem?_map,List.getElem?_map,List.getElem?_modify];by_cases hj:i=j
   ·subst hj
    simp[h2]
   ·cases m[j]? <;>simp[hj]
  rw[hk];exact⟨List.mem_map.2 ⟨(k,u),aan h2,rfl⟩,fun j hj=>hj⟩
end
theorem eY{w0:World}{b1 b5:Nat}{v2 v4 v5:Value}{listed:Array Bool}{a:Act}{w:World}{Q:Exit->Act->World->Prop}(hs:listed.size=(aG Tryz.f141 4).toArray.size)(hI:sU w0 b1 b5 v2 v4 v5 listed a w){i:Nat}{o:Oper}
 (_hi:i∈Region.ready .any (aG Tryz.f141 4).toArray listed) (ho:(aG Tryz.f141 4).toArray[i]? =some o) (hg:o.guard=none) (hd:o.dst=none) {k:Int}{u:Nat}{v:Value}
 (hop:o.op=Op.insert 191 (Operand.tmp 11) (Operand.const (Value.int IntKind.i64 k)) (Operand.tmp u)) (hins:BB i=some k) (he:a.eval (.tmp u)=v) (h0:listed.getD 0 false=true) (hsh:(lZ k).map Tg.shape=some (Br u)) (hT:y7 w v (Br u)):
 wpOp Tryz.prog (aG Tryz.f141 4).toArray Q i (sU w0 b1 b5 v2 v4 v5 (listed.setIfInBounds i true)) a w:=by
 obtain⟨r,m,h1,h2,h3,h4,h5,h6,h7⟩:=hI.oH h0
 obtain⟨sh,hsm,hst⟩:∃sh,lZ k=some sh/\Br u= .shape sh:=by
  cases hk:lZ k with
  | none=>rw[hk]at hsh;cases hsh
  | some sh=>rw[hk]at hsh;simp at hsh;exact⟨sh,rfl,hsh.symm⟩
 rw[hst]at hT;obtain⟨w2,hrun,hA2,hg2,hz2⟩:=bU (P:=Tryz.prog) (KK:=iN) (t:=191) (kt:=3) (et:=197) Tryz.underlying191 Tryz.underlying3 h3 k v;have he11:=aM h1
 have hk2:KC w w2:=by
  intro g cs ty fr hgc;refine hg2.block g (aae.1 hgc).1 ?_;intro e1;cases e1
  obtain⟨es,clock,h8,-⟩:=h3;rw[hgc]at h8;cases h8
 have hi0:i≠0:=by rintro rfl;cases hins
 have hput:∀x,a.put none x=a:=fun _=>rfl
 refine zH (o:=o) ho hg ?_;unfold Oper.wp
 have hrun2:(execOp a.eval o).run Tryz.prog w= .ok .skip w2:=by
  simp only[execOp,hop];rw[he11,he];simp only[Act.eval];have:=hrun;unfold iN at this;simp only at this;simp[this,Result.andThen]
 rw[hrun2,Oper.upon_skip,hd,hput];refine⟨hI.size,hI.t1,hI.t2,hI.t3,hI.t4,hI.t5,hk2.blk hI.k1,hI.k2.kc hk2 (by omega),hI.k4.kc hk2 (by omega),hk2.blk hI.k5,hI.q5.kc hk2 (by omega),hI.tmp.skip hs (fun t v h=>y7.kc hk2 (by omega) h) ho hd,?_,?_,?_,hI.defers⟩
 ·intro _
  refine⟨r,qM m k v,h1,h2,hA2,fun x hx=>?_,fun j k' hj hl=>?_,fun hl=>?_,fun hl=>?_⟩
  ·rcases Ye hx with hx|rfl
   ·obtain⟨sh',h8,h9⟩:=h4 x hx
    exact⟨sh',h8,h9.kc hk2 (by omega)⟩
   ·exact⟨sh,hsm,qC.kc hT hk2 (by omega)⟩
  ·rw[Mr]
   by_cases hji:j=i
   ·subst hji
    rw[hins]at hj;cases hj
    exact Me.1
   ·rw[fC hji]at hl
    exact Me.2 _ (Mr.1 (h5 j k' hj hl))
  ·refine h6 ?_
   rw[fC (by rintro rfl;cases hins)]at hl;exact hl
  ·refine h7 ?_
   rw[fC (by rintro rfl;cases hins)]at hl;exact hl
 ·intro j hj hl
  rw[fC (Ne.symm hi0)];exact h0
 ·exact hI.below.trans (((aA.refl (fun g=>g=r) w).grown hg2 (fun k hk=>by cases hk;exact .inl rfl)).toBelow hI.below.size (fun g hg=>by omega))
theorem op_0(so:((aG Tryz.f141 4).toArray[0]?).map (fun o=>(o.dst,o.op,o.guard))=some (some 11,Op.makeMap 191 none,none)):aN 0:=by
 intro w0 b1 b5 v2 v4 v5 listed a w Q hs hI hi;obtain⟨o,ho,hd,hop,hg⟩:=aS so;have hun:=(mem_ready.1 hi).1;have hlt:0<listed.size:=by have:=(aae.1 ho).1;omega
 have h00:listed.getD 0 false=false:=by simp[hlt]at hun⊢;exact hun
 have hb:=ae w (.map #[] 0);have hk:=KC.of_below hb
 have hp:∀u,u≠11->(a.put o.dst (.map (some w.heap.size))).tmps[u]? =a.tmps[u]? :=fun u hu=>by
  rw[hd];show(a.tmps.setIfInBounds 11 _)[u]? =_;rw[Array.getElem?_setIfInBounds_ne (Ne.symm hu)]
 refine zH (o:=o) ho hg ?_;unfold Oper.wp
 have hrun:(execOp a.eval o).run Tryz.prog w= .ok (.value (.map (some w.heap.size))) (w.alloc (.map #[] 0)):=by
  simp only[execOp,hop];have:=@run_makeMap Tryz.prog 191 w;simp[this,Result.andThen]
 rw[hrun,Oper.upon_value];refine⟨?_,(hp 1 (by omega)).trans hI.t1,(hp 2 (by omega)).trans hI.t2,(hp 3 (by omega)).trans hI.t3,(hp 4 (by omega)).trans hI.t4,(hp 5 (by omega)).trans hI.t5,hk.blk hI.k1,hI.k2.kc hk hb.size,hI.k4.kc hk hb.size,hk.blk hI.k5,hI.q5.kc hk hb.size,?_,?_,?_,hI.below.trans (hb.mono hI.below.size),?_⟩
 ·rw[hd]
  show(a.tmps.setIfInBounds 11 _).size=119;simpa using hI.size
 ·exact hI.tmp.put hs (fun t v h=>y7.kc hk hb.size h) (J3 Jz) ho hd (by rw[hI.size];omega) trivial
 ·intro _
  refine⟨w.heap.size,[],?_,hI.below.size,aY.made w,by simp,fun j k hj hl=>?_,fun hl=>?_,fun hl=>?_⟩
  ·rw[hd]
   show(a.tmps.setIfInBounds 11 _)[11]? =_;simp[hI.size]
  ·have hne:j≠0:=by rintro rfl;cases hj
   rw[fC hne]at hl;have:=hI.ord j (.inl (by rw[hj];simp)) hl;rw[h00]at this;cases this
  ·rw[fC (by omega)]at hl
   have:=hI.ord 136 (.inr (.inl rfl)) hl;rw[h00]at this;cases this
  ·rw[fC (by omega)]at hl
   have:=hI.ord 137 (.inr (.inr rfl)) hl;rw[h00]at this;cases this
 ·intro j hj hl
  simp[hlt]
 ·rw[hd]
  exact hI.defers
end Go.Proofs.YtoepemlnlpamlaaGreat
