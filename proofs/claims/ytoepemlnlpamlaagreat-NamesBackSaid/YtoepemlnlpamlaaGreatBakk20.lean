/- The law NamesBack holds for every text and every number: it returns true, and its arguments read as before. No condition. Part 20: Shp4 Shp4i Shp5. -/
import Derived.Test.YtoepemlnlpamlaaGreatBakk19
set_option maxRecDepth 100000
set_option maxHeartbeats 4000000
namespace Go.Proofs.YtoepemlnlpamlaaGreat
open Go.RowKit
def iH:Nat->Tg
 | 0=>.any
 | 11=>.any
 | 12=>.shape ⟨jq,[],none,0⟩
 | 13=>.ints [3,5]
 | 14=>.kind (dF [3,5])
 | 15=>.shape ⟨jq,[],some (dF [3,5]),0⟩
 | 16=>.text cZ
 | 17=>.ints [4]
 | 18=>.kind (dF [4])
 | 19=>.shape ⟨cZ,[],some (dF [4]),1⟩
 | 20=>.text cZ
 | 21=>.ints [9]
 | 22=>.kind (dF [9])
 | 23=>.qb [dF [9]]
 | 24=>.shape ⟨cZ,[dF [9]],none,0⟩
 | 25=>.text cZ
 | 26=>.ints [6]
 | 27=>.kind (dF [6])
 | 28=>.kind (jE fq)
 | 29=>.kind (dF [11])
 | 30=>.qb [dF [6],jE fq,dF [11]]
 | 31=>.shape ⟨cZ,[dF [6],jE fq,dF [11]],none,0⟩
 | 32=>.ints [7,8]
 | 33=>.kind (dF [7,8])
 | 34=>.shape ⟨jq,[],some (dF [7,8]),0⟩
 | 35=>.text cZ
 | 36=>.kind (jE fq)
 | 37=>.qb [jE fq]
 | 38=>.shape ⟨cZ,[jE fq],none,0⟩
 | 39=>.text cZ
 | 40=>.kind (jE fq)
 | 41=>.qb [jE fq]
 | 42=>.shape ⟨cZ,[jE fq],none,0⟩
 | 43=>.text Ol
 | 44=>.shape ⟨Ol,[],none,0⟩
 | 45=>.shape ⟨oU,[],none,0⟩
 | 46=>.shape ⟨jq,[],some sI,0⟩
 | 47=>.text cZ
 | 48=>.kind (jE fq)
 | 49=>.kind (bA)
 | 50=>.qb [jE fq,bA]
 | 51=>.shape ⟨cZ,[jE fq,bA],none,0⟩
 | 52=>.kind (bA)
 | 53=>.qb [mU,bA]
 | 54=>.shape ⟨jq,[mU,bA],none,0⟩
 | 55=>.kind (bA)
 | 56=>.kind (dF [11])
 | 57=>.ints [11,14]
 | 58=>.kind (dF [11,14])
 | 59=>.kind (jE (dF [11,14]))
 | 60=>.qb [bA,dF [11],jE (dF [11,14])]
 | 61=>.shape ⟨jq,[bA,dF [11],jE (dF [11,14])],none,0⟩
 | 62=>.kind (bA)
 | 63=>.kind (dF [11])
 | 64=>.qb [bA,dF [11]]
 | 65=>.shape ⟨jq,[bA,dF [11]],none,0⟩
 | 66=>.text cZ
 | 67=>.kind (bA)
 | 68=>.kind (bA)
 | 69=>.kind (dF [11])
 | 70=>.qb [bA,bA,dF [11]]
 | 71=>.shape ⟨cZ,[bA,bA,dF [11]],none,0⟩
 | 72=>.kind (bA)
 | 73=>.kind (jE (bA))
 | 74=>.qb [jE (bA)]
 | 75=>.shape ⟨jq,[jE (bA)],none,0⟩
 | 76=>.kind (bA)
 | 77=>.qb [bA]
 | 78=>.shape ⟨jq,[bA],none,0⟩
 | 79=>.text cZ
 | 80=>.kind (bA)
 | 81=>.shape ⟨cZ,[],some (bA),0⟩
 | 82=>.text cZ
 | 83=>.shape ⟨cZ,[],none,0⟩
 | 84=>.ints [20]
 | 85=>.kind (dF [20])
 | 86=>.kind (bA)
 | 87=>.qb [dF [20],bA]
 | 88=>.shape ⟨jq,[dF [20],bA],none,0⟩
 | 89=>.text cZ
 | 90=>.ints [20]
 | 91=>.kind (dF [20])
 | 92=>.qb [dF [20]]
 | 93=>.shape ⟨cZ,[dF [20]],none,0⟩
 | 94=>.ints [20]
 | 95=>.kind (dF [20])
 | 96=>.qb [dF [20]]
 | 97=>.shape ⟨jq,[dF [20]],none,0⟩
 | 98=>.shape ⟨oU,[],none,0⟩
 | 99=>.strs NZ
 | 100=>.text (uS NZ)
 | 101=>.shape ⟨(uS NZ),[],none,0⟩
 | 102=>.kind (bA)
 | 103=>.shape ⟨jq,[],some (bA),1⟩
 | 104=>.text cZ
 | 105=>.kind (bA)
 | 106=>.shape ⟨cZ,[],some (bA),0⟩
 | 107=>.strs unW
 | 108=>.text (uS unW)
 | 109=>.kind (bA)
 | 110=>.qb [bA]
 | 111=>.shape ⟨(uS unW),[bA],none,0⟩
 | 112=>.strs QT
 | 113=>.text (uS QT)
 | 114=>.kind (bA)
 | 115=>.kind (bA)
 | 116=>.qb [bA,bA]
 | 117=>.shape ⟨(uS QT),[bA,bA],none,0⟩
 | 118=>.any
 | _=>.any
def kI:Nat->Option Int
 | 2=>some 0
 | 6=>some 2
 | 11=>some 3
 | 17=>some 4
 | 25=>some 5
 | 29=>some 6
 | 34=>some 7
 | 39=>some 8
 | 42=>some 9
 | 44=>some 10
 | 46=>some 11
 | 52=>some 12
 | 56=>some 13
 | 64=>some 14
 | 69=>some 15
 | 76=>some 16
 | 81=>some 17
 | 85=>some 18
 | 89=>some 19
 | 92=>some 20
 | 98=>some 21
 | 104=>some 22
 | 109=>some 23
 | 111=>some 24
 | 115=>some 25
 | 118=>some 26
 | 122=>some 27
 | 128=>some 28
 | 135=>some 29
 | _=>none
def MapI(w0:World)(listed:Array Bool)(a:Act)(w:World):Prop:=
 listed.getD 0 false=true->∃r m,a.tmps[11]? =some (.map (some r))/\w0.heap.size<=r/\aZ kF w r m/\(∀x∈m,∃sh,lJ x.1=some sh/\qf w x.2 sh) /\
  (∀i k,kI i=some k->listed.getD i false=true->(ng m k).isSome=true)/\(listed.getD 136 false=true->a.tmps[118]? =some (.map (some r)))/\(listed.getD 137 false=true->a.tmps[0]? =some (.map (some r)))
structure pV (w0:World) (b1 b5:Nat) (v2 v4 v5:Value) (listed:Array Bool) (a:Act) (w:World):Prop where
 size:a.tmps.size=119
 t1:a.tmps[1]? =some (.pointer (some ⟨b1,0,none⟩))
 t2:a.tmps[2]? =some v2
 t3:a.tmps[3]? =some (.func (Fn.func 190) #[] #[])
 t4:a.tmps[4]? =some v4
 t5:a.tmps[5]? =some (.pointer (some ⟨b5,0,none⟩))
 k1:ai w b1 99 #[.func (Fn.func 53) #[] #[]]
 k2:jv w v2 (dF [11])
 k4:jv w v4 (jE fq)
 k5:ai w b5 99 #[v5]
 q5:oD w v5 (uS FR)
 tmp:Dl (dz Tryz.f141 4).toArray (fun t w v=>xK w v (iH t)) listed a w
 nY:MapI w0 listed a w
 ord:∀i,(kI i≠none\/i=136\/i=137)->listed.getD i false=true->listed.getD 0 false=true
 below:Below w0.heap.size w0 w
 defers:a.defers=[]
theorem lY{i:Nat}{d:Option Nat}{op:Op}(h:((dz Tryz.f141 4).toArray[i]?).map (fun o=>(o.dst,o.op,o.guard))=some (d,op,none)):∃o,(dz Tryz.f141 4).toArray[i]? =some o/\o.dst=d/\o.op=op/\o.guard=none:=by
 cases ho:(dz Tryz.f141 4).toArray[i]? with
 | none=>rw[ho]at h;cases h
 | some o=>
  rw[ho]at h;simp only[Option.map_some,aaI,Prod.mk.injEq]at h;exact⟨o,rfl,h.1,h.2.1,h.2.2⟩
theorem pV.get{w0:World}{b1 b5:Nat}{v2 v4 v5:Value}{listed:Array Bool}{a:Act}{w:World}(hI:pV w0 b1 b5 v2 v4 v5 listed a w){i:Nat}(hi:i∈Region.ready .any (dz Tryz.f141 4).toArray listed){j u:Nat}
 (hj:((dz Tryz.f141 4).toArray[j]?).map (fun o=>o.dst)=some (some u)) (hdep:((dz Tryz.f141 4).toArray[i]?).map (fun o=>o.after.toList.any fun e=>Region.binds .any e&&(e.on==j))=some true):∃v,a.tmps[u]? =some v/\xK w v (iH u):=by
 cases ho:(dz Tryz.f141 4).toArray[j]? with
 | none=>rw[ho]at hj;cases hj
 | some o=>
  rw[ho]at hj;simp only[Option.map_some,aaI]at hj;exact hI.tmp j o u ho hj (zg hi hdep)
def VQ(ops:List Oper):Bool:=(List.range ops.length).all fun i=>match ops[i]? with|some o=>o.after.toList.all fun e=>decide (e.on<i)|none=>true
def Zb(ops:List Oper):Bool:=(List.range ops.length).all fun i=>match ops[i]? with|some o=>(match o.dst with|some t=>ops.findIdx (fun x=>x.dst==some t)==i|none=>true)|none=>true
theorem acyc_of{ops:List Oper}(h:VQ ops=true):∀(i:Nat) (o:Oper),ops.toArray[i]? =some o->∀e∈o.after,e.on<i:=by
 intro i o ho e he;have hi:=(aaG.1 ho).1;unfold VQ at h;rw[List.all_eq_true]at h;have h1:=h i (by simpa using hi);rw[show ops[i]? =some o by simpa using ho]at h1;simp only[List.all_eq_true,decide_eq_true_eq]at h1;exact h1 e (by simpa using he)
theorem Kb{ops:List Oper}(h:Zb ops=true):∀(i j:Nat) (o o':Oper) (t:Nat),ops.toArray[i]? =some o->ops.toArray[j]? =some o'->o.dst=some t->o'.dst=some t->i=j:=by
 have key:∀(i:Nat) (o:Oper) (t:Nat),ops.toArray[i]? =some o->o.dst=some t->ops.findIdx (fun x=>x.dst==some t)=i:=by
  intro i o t ho hd;have hi:=(aaG.1 ho).1;unfold Zb at h;rw[List.all_eq_true]at h;have h1:=h i (by simpa using hi);rw[show ops[i]? =some o by simpa using ho]at h1;simp only[hd,beq_iff_eq]at h1;exact h1
 intro i j o o' t hi hj hd hd';rw[<- key i o t hi hd,<- key j o' t hj hd']
theorem sh_acyc:VQ (dz Tryz.f141 4)=true:=by kernel_rfl
theorem JH:Zb (dz Tryz.f141 4)=true:=by kernel_rfl
theorem zk{P:Program}{ops:Array Oper}{Q:Exit->Act->World->Prop}{i:Nat}{o:Oper}{a:Act}{w:World}{K:Act->World->Prop}(ho:ops[i]? =some o)(hg:o.guard=none)(h:o.wp P a w K Q):wpOp P ops Q i K a w:=by
 unfold wpOp;simp only[ho];rw[if_pos (by simp[Region.wanted,hg])];exact .inl h
theorem eF{listed:Array Bool}{i j:Nat}(hne:j≠i):(listed.setIfInBounds i true).getD j false=listed.getD j false:=by
 simp[Array.getD_eq_getD_getElem?,Array.getElem?_setIfInBounds_ne (Ne.symm hne)]
theorem pV.put{w0:World}{b1 b5:Nat}{v2 v4 v5:Value}{listed:Array Bool}{a:Act}{w w':World}(hI:pV w0 b1 b5 v2 v4 v5 listed a w)(hs:listed.size=(dz Tryz.f141 4).toArray.size){i:Nat}{o:Oper}{t:Nat}{v:Value}
 (ho:(dz Tryz.f141 4).toArray[i]? =some o) (hd:o.dst=some t) (ht:12<=t/\t<=117) (hins:kI i=none/\i≠0/\i≠136/\i≠137) (hb:Below w.heap.size w w') (hv:xK w' v (iH t)):
 pV w0 b1 b5 v2 v4 v5 (listed.setIfInBounds i true) (a.put o.dst v) w':=by
 have hk:=KC.of_below hb
 have hp:∀u,u≠t->(a.put o.dst v).tmps[u]? =a.tmps[u]? :=fun u hu=>by
  rw[hd];show(a.tmps.setIfInBounds t v)[u]? =_;rw[Array.getElem?_setIfInBounds_ne (Ne.symm hu)]
 refine⟨?_,(hp 1 (by omega)).trans hI.t1,(hp 2 (by omega)).trans hI.t2,(hp 3 (by omega)).trans hI.t3,(hp 4 (by omega)).trans hI.t4,(hp 5 (by omega)).trans hI.t5,hk.blk hI.k1,hI.k2.kc hk hb.size,hI.k4.kc hk hb.size,hk.blk hI.k5,hI.q5.kc hk hb.size,?_,?_,?_,hI.below.trans (hb.mono hI.below.size),?_⟩
 ·rw[hd]
  show(a.tmps.setIfInBounds t v).size=119;simpa using hI.size
 ·exact hI.tmp.put hs (fun t v h=>xK.kc hk hb.size h) (Kb JH) ho hd (by rw[hI.size];omega) hv
 ·intro h0
  rw[eF (Ne.symm hins.2.1)]at h0;obtain⟨r,m,h1,h2,h3,h4,h5,h6,h7⟩:=hI.nY h0;refine⟨r,m,(hp 11 (by omega)).trans h1,h2,h3.below hb h3.lt,fun x hx=>?_,fun j k hj hl=>?_,fun hl=>?_,fun hl=>?_⟩
  ·obtain⟨sh,h8,h9⟩:=h4 x hx
   exact⟨sh,h8,h9.kc hk hb.size⟩
  ·have hne:j≠i:=by rintro rfl;rw[hins.1]at hj;cases hj
   rw[eF hne]at hl;exact h5 j k hj hl
  ·rw[eF (Ne.symm hins.2.2.1)]at hl
   exact(hp 118 (by omega)).trans (h6 hl)
  ·rw[eF (Ne.symm hins.2.2.2)]at hl
   exact(hp 0 (by omega)).trans (h7 hl)
 ·intro j hj hl
  have hne:j≠i:=by
   rintro rfl;rcases hj with hj|hj|hj
   ·exact hj hins.1
   ·exact hins.2.2.1 hj
   ·exact hins.2.2.2 hj
  rw[eF hne]at hl;rw[eF (Ne.symm hins.2.1)];exact hI.ord j hj hl
 ·rw[hd]
  exact hI.defers
def jD(i:Nat):Prop:=∀(w0:World) (b1 b5:Nat) (v2 v4 v5:Value) (listed:Array Bool) (a:Act) (w:World) (Q:Exit->Act->World->Prop),listed.size=(dz Tryz.f141 4).toArray.size->pV w0 b1 b5 v2 v4 v5 listed a w->i∈Region.ready .any (dz Tryz.f141 4).toArray listed ->
 wpOp Tryz.prog (dz Tryz.f141 4).toArray Q i (pV w0 b1 b5 v2 v4 v5 (listed.setIfInBounds i true)) a w
theorem kE{w0:World}{b1 b5:Nat}{v2 v4 v5:Value}{listed:Array Bool}{a:Act}{w:World}{Q:Exit->Act->World->Prop}(hs:listed.size=(dz Tryz.f141 4).toArray.size)(hI:pV w0 b1 b5 v2 v4 v5 listed a w){i:Nat}{o:Oper}{t:Nat}
 (_hi:i∈Region.ready .any (dz Tryz.f141 4).toArray listed) (ho:(dz Tryz.f141 4).toArray[i]? =some o) (hg:o.guard=none) (hd:o.dst=some t) (ht:12<=t/\t<=117) (hins:kI i=none/\i≠0/\i≠136/\i≠137)
 {v:Value}{w':World}(hrun:(execOp a.eval o).run Tryz.prog w= .ok (.value v) w') (hb:Below w.heap.size w w') (hv:xK w' v (iH t)):
 wpOp Tryz.prog (dz Tryz.f141 4).toArray Q i (pV w0 b1 b5 v2 v4 v5 (listed.setIfInBounds i true)) a w:=by
 refine zk (o:=o) ho hg ?_;unfold Oper.wp;rw[hrun,Oper.upon_value];exact hI.put hs ho hd ht hins hb hv
theorem Ep{w0:World}{b1 b5:Nat}{v2 v4 v5:Value}{listed:Array Bool}{a:Act}{w:World}{Q:Exit->Act->World->Prop}(hs:listed.size=(dz Tryz.f141 4).toArray.size)(hI:pV w0 b1 b5 v2 v4 v5 listed a w){i:Nat}{o:Oper}{t:Nat}
 (_hi:i∈Region.ready .any (dz Tryz.f141 4).toArray listed) (ho:(dz Tryz.f141 4).toArray[i]? =some o) (hg:o.guard=none) (hd:o.dst=some t) (ht:12<=t/\t<=117) (hins:kI i=none/\i≠0/\i≠136/\i≠137)
 {f:Nat}{args:Array Value}(hrun:(execOp a.eval o).run Tryz.prog w= .ok (.enter f args) w) (hc:Calls Tryz.prog f args w fun e w'=> ∃v,e= .returned v/\xK w' v (iH t)/\Below w.heap.size w w'):
 wpOp Tryz.prog (dz Tryz.f141 4).toArray Q i (pV w0 b1 b5 v2 v4 v5 (listed.setIfInBounds i true)) a w:=by
 refine zk (o:=o) ho hg ?_;unfold Oper.wp;rw[hrun,Oper.upon_enter];refine hc.mono ?_;rintro e w' ⟨v,rfl,hv,hb⟩;exact hI.put hs ho hd ht hins hb hv
theorem IP(w:World)(ty:TypeId)(l:List Int):bW 1 dM (w.alloc (.cells (l.map fun i=>Value.int .i64 i).toArray ty)) (w.alloc (.cells (l.map fun i=>Value.int .i64 i).toArray ty)).heap.size (some ⟨w.heap.size,0,none⟩) l:=by
 intro k c hk;refine⟨w.heap.size,0,rfl,by simp,fun j v hj=>?_⟩;have hb:=ai.new w ty (l.map fun i=>Value.int .i64 i).toArray;rw[hb.cell]
 cases j with
 | zero=>
  simp[dM]at hj;subst hj;simp[hk]
 | succ j=>simp[dM]at hj
theorem Eo(w:World)(ty:TypeId)(l:List ByteArray):bW 1 eZ (w.alloc (.cells (l.map fun i=>Value.string i).toArray ty)) (w.alloc (.cells (l.map fun i=>Value.string i).toArray ty)).heap.size (some ⟨w.heap.size,0,none⟩) l:=by
 intro k c hk;refine⟨w.heap.size,0,rfl,by simp,fun j v hj=>?_⟩;have hb:=ai.new w ty (l.map fun i=>Value.string i).toArray;rw[hb.cell]
 cases j with
 | zero=>
  simp[eZ]at hj;subst hj;simp[hk]
 | succ j=>simp[eZ]at hj
inductive Jy (w:World):List Value->List (Int->Bool)->Prop where
 | nil:Jy w [] []
 | cons {v:Value}{p:Int->Bool}{vs:List Value}{ps:List (Int->Bool)}:jv w v p->Jy w vs ps->Jy w (v::vs) (p::ps)
theorem Jy.get{w:World}:∀{vs:List Value}{ps:List (Int->Bool)},Jy w vs ps->∀(i:Nat) (p:Int->Bool),ps[i]? =some p->∃v,vs[i]? =some v/\jv w v p
 | _,_,.nil,i,p,h=>by simp at h
 | _,_,.cons h1 h2,0,p,h=>by
  simp at h;subst h;exact⟨_,rfl,h1⟩
 | _,_,.cons h1 h2,i+1,p,h=>by
  obtain⟨v,h3,h4⟩:=Jy.get h2 i p (by simpa using h);exact⟨v,by simpa using h3,h4⟩
theorem Jb(w:World)(ty:TypeId)(vs:List Value)(ps:List (Int->Bool))(h:Jy w vs ps):Gb (w.alloc (.cells vs.toArray ty)) (some ⟨w.heap.size,0,none⟩) ps:=by
 intro i p hp;obtain⟨v,h1,h2⟩:=h.get i p hp;refine⟨w.heap.size,0,v,rfl,?_,h2.below (af _ _)⟩;have hb:=ai.new w ty vs.toArray;rw[hb.cell];simpa using h1
theorem EF{w:World}{v:Value}{p:Int->Bool}(h:jv w v p):∃fn cap,v= .func (Fn.func fn) #[] cap:=by
 obtain⟨fn,cap,rfl,-⟩:=h;exact⟨fn,cap,rfl⟩
theorem Mw{w:World}{v:Value}{p:ByteArray->Bool}(h:oD w v p):∃fn cap,v= .func (Fn.func fn) #[] cap:=by
 obtain⟨fn,cap,rfl,-⟩:=h;exact⟨fn,cap,rfl⟩
section
variable {K:Type} [DecidableEq K]
theorem Pd(k:K):∀(m:List (K×Value)) (i:Nat),(l5 k m i).isSome=true↔k∈m.map (·.1)
 | [],i=>by simp[l5]
 | x::m,i=>by
  simp only[l5,List.map_cons,List.mem_cons];by_cases h:k=x.1
  ·simp[h]
  ·rw[if_neg h,Pd k m (i+1)]
   simp[h]
theorem MS{m:List (K×Value)}{k:K}:(ng m k).isSome=true↔k∈m.map (·.1):=by
 unfold ng;rw[Option.isSome_map];exact Pd k m 0
theorem Xc{m:List (K×Value)}{k:K}{v:Value}(h:ng m k=some v):(k,v)∈m:=by
 unfold ng at h
 cases hp:l5 k m 0 with
 | none=>rw[hp]at h;cases h
 | some x=>
  obtain⟨i,u⟩:=x;rw[hp]at h;simp at h;subst h;obtain⟨n,h1,h2⟩:=FV k m 0 i u hp;exact aaP h2
theorem YT{m:List (K×Value)}{k:K}{v:Value}{x:K×Value}(h:x∈o5 m k v):x∈m\/x=(k,v):=by
 unfold o5 at h;split at h
 ·simp at h
  exact h
 ·rename_i i u hp
  rw[List.mem_iff_getElem?]at h;obtain⟨j,hj⟩:=h;rw[List.getElem?_modify]at hj
  cases hm:m[j]? with
  | none=>rw[hm]at hj;simp at hj
  | some y=>
   rw[hm]at hj;simp at hj;split at hj
   ·exact .inr hj.symm
   ·exact .inl (by rw[<- hj];exact aaP hm)
theorem MG{m:List (K×Value)}{k:K}{v:Value}:k∈(o5 m k v).map (·.1)/\∀j∈m.map (·.1),j∈(o5 m k v).map (·.1):=by
 unfold o5;split
 ·simp
  intro j x hx;exact .inl ⟨x,hx⟩
 ·rename_i i u hp
  obtain⟨n,h1,h2⟩:=FV k m 0 i u hp;have hn:i=n:=by omega
  subst hn
  have hk:(m.modify i fun _=>(k,v)).map (·.1)=m.map (·.1):=by
   apply List.ext_getElem?
   intro j;rw[List.getElem?_map,List.getElem?_map,List.getElem?_modify];by_cases hj:i=j
   ·subst hj
    simp[h2]
   ·cases m[j]? <;>simp[hj]
  rw[hk];exact⟨List.mem_map.2 ⟨(k,u),aaP h2,rfl⟩,fun j hj=>hj⟩
end
theorem YP{w0:World}{b1 b5:Nat}{v2 v4 v5:Value}{listed:Array Bool}{a:Act}{w:World}{Q:Exit->Act->World->Prop}(hs:listed.size=(dz Tryz.f141 4).toArray.size)(hI:pV w0 b1 b5 v2 v4 v5 listed a w){i:Nat}{o:Oper}
 (_hi:i∈Region.ready .any (dz Tryz.f141 4).toArray listed) (ho:(dz Tryz.f141 4).toArray[i]? =some o) (hg:o.guard=none) (hd:o.dst=none) {k:Int}{u:Nat}{v:Value}
 (hop:o.op=Op.insert 191 (Operand.tmp 11) (Operand.const (Value.int IntKind.i64 k)) (Operand.tmp u)) (hins:kI i=some k) (he:a.eval (.tmp u)=v) (h0:listed.getD 0 false=true) (hsh:(lJ k).map Tg.shape=some (iH u)) (hT:xK w v (iH u)):
 wpOp Tryz.prog (dz Tryz.f141 4).toArray Q i (pV w0 b1 b5 v2 v4 v5 (listed.setIfInBounds i true)) a w:=by
 obtain⟨r,m,h1,h2,h3,h4,h5,h6,h7⟩:=hI.nY h0
 obtain⟨sh,hsm,hst⟩:∃sh,lJ k=some sh/\iH u= .shape sh:=by
  cases hk:lJ k with
  | none=>rw[hk]at hsh;cases hsh
  | some sh=>rw[hk]at hsh;simp at hsh;exact⟨sh,rfl,hsh.symm⟩
 rw[hst]at hT;obtain⟨w2,hrun,hA2,hg2,hz2⟩:=fe (P:=Tryz.prog) (KK:=kF) (t:=191) (kt:=3) (et:=197) Tryz.underlying191 Tryz.underlying3 h3 k v;have he11:=tL h1
 have hk2:KC w w2:=by
  intro g cs ty fr hgc;refine hg2.block g (aaG.1 hgc).1 ?_;intro e1;cases e1
  obtain⟨es,clock,h8,-⟩:=h3;rw[hgc]at h8;cases h8
 have hi0:i≠0:=by rintro rfl;cases hins
 have hput:∀x,a.put none x=a:=fun _=>rfl
 refine zk (o:=o) ho hg ?_;unfold Oper.wp
 have hrun2:(execOp a.eval o).run Tryz.prog w= .ok .skip w2:=by
  simp only[execOp,hop];rw[he11,he];simp only[Act.eval];have:=hrun;unfold kF at this;simp only at this;simp[this,Result.andThen]
 rw[hrun2,Oper.upon_skip,hd,hput];refine⟨hI.size,hI.t1,hI.t2,hI.t3,hI.t4,hI.t5,hk2.blk hI.k1,hI.k2.kc hk2 (by omega),hI.k4.kc hk2 (by omega),hk2.blk hI.k5,hI.q5.kc hk2 (by omega),hI.tmp.skip hs (fun t v h=>xK.kc hk2 (by omega) h) ho hd,?_,?_,?_,hI.defers⟩
 ·intro _
  refine⟨r,o5 m k v,h1,h2,hA2,fun x hx=>?_,fun j k' hj hl=>?_,fun hl=>?_,fun hl=>?_⟩
  ·rcases YT hx with hx|rfl
   ·obtain⟨sh',h8,h9⟩:=h4 x hx
    exact⟨sh',h8,h9.kc hk2 (by omega)⟩
   ·exact⟨sh,hsm,qf.kc hT hk2 (by omega)⟩
  ·rw[MS]
   by_cases hji:j=i
   ·subst hji
    rw[hins]at hj;cases hj
    exact MG.1
   ·rw[eF hji]at hl
    exact MG.2 _ (MS.1 (h5 j k' hj hl))
  ·refine h6 ?_
   rw[eF (by rintro rfl;cases hins)]at hl;exact hl
  ·refine h7 ?_
   rw[eF (by rintro rfl;cases hins)]at hl;exact hl
 ·intro j hj hl
  rw[eF (Ne.symm hi0)];exact h0
 ·exact hI.below.trans (((az.refl (fun g=>g=r) w).grown hg2 (fun k hk=>by cases hk;exact .inl rfl)).toBelow hI.below.size (fun g hg=>by omega))
theorem op_0(so:((dz Tryz.f141 4).toArray[0]?).map (fun o=>(o.dst,o.op,o.guard))=some (some 11,Op.makeMap 191 none,none)):jD 0:=by
 intro w0 b1 b5 v2 v4 v5 listed a w Q hs hI hi;obtain⟨o,ho,hd,hop,hg⟩:=lY so;have hun:=(mem_ready.1 hi).1;have hlt:0<listed.size:=by have:=(aaG.1 ho).1;omega
 have h00:listed.getD 0 false=false:=by simp[hlt]at hun⊢;exact hun
 have hb:=af w (.map #[] 0);have hk:=KC.of_below hb
 have hp:∀u,u≠11->(a.put o.dst (.map (some w.heap.size))).tmps[u]? =a.tmps[u]? :=fun u hu=>by
  rw[hd];show(a.tmps.setIfInBounds 11 _)[u]? =_;rw[Array.getElem?_setIfInBounds_ne (Ne.symm hu)]
 refine zk (o:=o) ho hg ?_;unfold Oper.wp
 have hrun:(execOp a.eval o).run Tryz.prog w= .ok (.value (.map (some w.heap.size))) (w.alloc (.map #[] 0)):=by
  simp only[execOp,hop];have:=@run_makeMap Tryz.prog 191 w;simp[this,Result.andThen]
 rw[hrun,Oper.upon_value];refine⟨?_,(hp 1 (by omega)).trans hI.t1,(hp 2 (by omega)).trans hI.t2,(hp 3 (by omega)).trans hI.t3,(hp 4 (by omega)).trans hI.t4,(hp 5 (by omega)).trans hI.t5,hk.blk hI.k1,hI.k2.kc hk hb.size,hI.k4.kc hk hb.size,hk.blk hI.k5,hI.q5.kc hk hb.size,?_,?_,?_,hI.below.trans (hb.mono hI.below.size),?_⟩
 ·rw[hd]
  show(a.tmps.setIfInBounds 11 _).size=119;simpa using hI.size
 ·exact hI.tmp.put hs (fun t v h=>xK.kc hk hb.size h) (Kb JH) ho hd (by rw[hI.size];omega) trivial
 ·intro _
  refine⟨w.heap.size,[],?_,hI.below.size,aZ.made w,by simp,fun j k hj hl=>?_,fun hl=>?_,fun hl=>?_⟩
  ·rw[hd]
   show(a.tmps.setIfInBounds 11 _)[11]? =_;simp[hI.size]
  ·have hne:j≠0:=by rintro rfl;cases hj
   rw[eF hne]at hl;have:=hI.ord j (.inl (by rw[hj];simp)) hl;rw[h00]at this;cases this
  ·rw[eF (by omega)]at hl
   have:=hI.ord 136 (.inr (.inl rfl)) hl;rw[h00]at this;cases this
  ·rw[eF (by omega)]at hl
   have:=hI.ord 137 (.inr (.inr rfl)) hl;rw[h00]at this;cases this
 ·intro j hj hl
  simp[hlt]
 ·rw[hd]
  exact hI.defers
def qM(i u:Nat):Prop:=(match (dz Tryz.f141 4).toArray[i]? with
 | some o=>o.after.toList.any fun e=>Region.binds .any e&&(match (dz Tryz.f141 4).toArray[e.on]? with|some q=>q.dst==some u|none=>false)
 | none=>false)=true
theorem pV.dep{w0:World}{b1 b5:Nat}{v2 v4 v5:Value}{listed:Array Bool}{a:Act}{w:World}(hI:pV w0 b1 b5 v2 v4 v5 listed a w){i:Nat}(hi:i∈Region.ready .any (dz Tryz.f141 4).toArray listed){u:Nat}(h:qM i u):∃v,a.tmps[u]? =some v/\xK w v (iH u):=by
 unfold qM at h
 cases ho:(dz Tryz.f141 4).toArray[i]? with
 | none=>rw[ho]at h;cases h
 | some o=>
  rw[ho]at h;obtain⟨e,h1,h2⟩:=List.any_eq_true.1 h;rw[aaF]at h2
  cases hq:(dz Tryz.f141 4).toArray[e.on]? with
  | none=>rw[hq]at h2;cases h2.2
  | some q=>
   rw[hq]at h2;refine hI.get hi (j:=e.on) (u:=u) (by rw[hq];exact congrArg some (eq_of_beq h2.2)) ?_;rw[ho];refine congrArg some (List.any_eq_true.2 ⟨e,h1,?_⟩);rw[h2.1,beq_self_eq_true];rfl
def SO(i:Nat)(d:Option Nat)(op:Op):Prop:=((dz Tryz.f141 4).toArray[i]?).map (fun o=>(o.dst,o.op,o.guard))=some (d,op,none)
def TX(i:Nat)(x:Operand)(p:ByteArray->Bool):Prop:=∀{w0:World}{b1 b5:Nat}{v2 v4 v5:Value}{listed:Array Bool}{a:Act}{w:World},pV w0 b1 b5 v2 v4 v5 listed a w->i∈Region.ready .any (dz Tryz.f141 4).toArray listed->∃f c,a.eval x= .func (Fn.func f) #[] c/\oD w (.func (Fn.func f) #[] c) p
def KP(i:Nat)(x:Operand)(p:Int->Bool):Prop:=∀{w0:World}{b1 b5:Nat}{v2 v4 v5:Value}{listed:Array Bool}{a:Act}{w:World},pV w0 b1 b5 v2 v4 v5 listed a w->i∈Region.ready .any (dz Tryz.f141 4).toArray listed->∃f c,a.eval x= .func (Fn.func f) #[] c/\jv w (.func (Fn.func f) #[] c) p
section
variable {i:Nat}
theorem TX.t(u:Nat)(p:ByteArray->Bool)(h:qM i u:=by unfold qM;kernel_rfl) (ht:iH u= .text p:=by rfl):TX i (.tmp u) p:=fun hI hi=>by
 obtain⟨v,hv,hT⟩:=hI.dep hi h;rw[ht]at hT;obtain⟨f,c,rfl⟩:=Mw hT;exact⟨f,c,tL hv,hT⟩
theorem TX.e:TX i (.func 194) jq:=fun _ _=>⟨194,#[],rfl,Z4 _⟩
theorem TX.n:TX i (.func 196) oU:=fun _ _=>⟨196,#[],rfl,WU _⟩
theorem KP.t(u:Nat)(p:Int->Bool)(h:qM i u:=by unfold qM;kernel_rfl) (ht:iH u= .kind p:=by rfl):KP i (.tmp u) p:=fun hI hi=>by
 obtain⟨v,hv,hT⟩:=hI.dep hi h;rw[ht]at hT;obtain⟨f,c,rfl⟩:=EF hT;exact⟨f,c,tL hv,hT⟩
theorem KP.s:KP i (.func 197) sI:=fun _ _=>⟨197,#[],rfl,Xj _⟩
theorem KP.p:KP i (.func 198) mU:=fun _ _=>⟨198,#[],rfl,U7 _⟩
theorem kB(t:Nat){x:Operand}{tp:ByteArray->Bool}(hx:TX i x tp)(so:SO i (some t) (Op.build 197 #[(0,x)]):=by unfold SO;kernel_rfl) (ht:iH t= .shape ⟨tp,[],none,0⟩:=by rfl) (hz:12<=t/\t<=117:=by decide) (hn:kI i=none/\i≠0/\i≠136/\i≠137:=by decide):jD i:=by
 intro w0 b1 b5 v2 v4 v5 listed a w Q hs hI hi;obtain⟨o,ho,hd,hop,hg⟩:=lY so;obtain⟨ft,ct,het,Qv⟩:=hx hI hi;refine kE hs hI hi ho hg hd hz hn (v:=.agg #[.func (Fn.func ft) #[] ct,.slice none 0 0,.nilFunc,.int .i64 0]) (w':=w) (by simp only[execOp,hop,List.map_toArray,List.map_cons,List.map_nil,het];go_simp) (Below.refl _ _) ?_;rw[ht];exact⟨_,_,_,_,rfl,Qv,(by intro i p h;simp at h),rfl⟩
theorem yN(t:Nat){x:Operand}{tp:ByteArray->Bool}(hx:TX i x tp)(u:Nat)(ps:List (Int->Bool))(h:qM i u:=by unfold qM;kernel_rfl) (hu:iH u= .qb ps:=by rfl) (so:SO i (some t) (Op.build 197 #[(0,x),(1,Operand.tmp u)]):=by unfold SO;kernel_rfl) (ht:iH t= .shape ⟨tp,ps,none,0⟩:=by rfl) (hz:12<=t/\t<=117:=by decide) (hn:kI i=none/\i≠0/\i≠136/\i≠137:=by decide):jD i:=by
 intro w0 b1 b5 v2 v4 v5 listed a w Q hs hI hi;obtain⟨o,ho,hd,hop,hg⟩:=lY so;obtain⟨ft,ct,het,Qv⟩:=hx hI hi;obtain⟨xk,hxk,hTk⟩:=hI.dep hi h;rw[hu]at hTk;obtain⟨A,c,rfl,hk⟩:=hTk;have hek:=tL hxk;refine kE hs hI hi ho hg hd hz hn (v:=.agg #[.func (Fn.func ft) #[] ct,.slice A ps.length c,.nilFunc,.int .i64 0]) (w':=w) (by simp only[execOp,hop,List.map_toArray,List.map_cons,List.map_nil,het];go_simp) (Below.refl _ _) ?_;rw[ht];exact⟨_,_,_,_,rfl,Qv,hk,rfl⟩
theorem Xh(t:Nat){x y:Operand}{tp:ByteArray->Bool}{p:Int->Bool}(hx:TX i x tp)(hy:KP i y p)(so:SO i (some t) (Op.build 197 #[(0,x),(2,y)]):=by unfold SO;kernel_rfl) (ht:iH t= .shape ⟨tp,[],some p,0⟩:=by rfl) (hz:12<=t/\t<=117:=by decide) (hn:kI i=none/\i≠0/\i≠136/\i≠137:=by decide):jD i:=by
 intro w0 b1 b5 v2 v4 v5 listed a w Q hs hI hi;obtain⟨o,ho,hd,hop,hg⟩:=lY so;obtain⟨ft,ct,het,Qv⟩:=hx hI hi;obtain⟨fl,cl,hel,hTl⟩:=hy hI hi;refine kE hs hI hi ho hg hd hz hn (v:=.agg #[.func (Fn.func ft) #[] ct,.slice none 0 0,.func (Fn.func fl) #[] cl,.int .i64 0]) (w':=w) (by simp only[execOp,hop,List.map_toArray,List.map_cons,List.map_nil,het,hel];go_simp) (Below.refl _ _) ?_;rw[ht];exact⟨_,_,_,_,rfl,Qv,(by intro i p h;simp at h),hTl⟩
theorem kBm(t:Nat){x y:Operand}{tp:ByteArray->Bool}{p:Int->Bool}(hx:TX i x tp)(hy:KP i y p)(so:SO i (some t) (Op.build 197 #[(0,x),(2,y),(3,Operand.const (Value.int IntKind.i64 1))]):=by unfold SO;kernel_rfl) (ht:iH t= .shape ⟨tp,[],some p,1⟩:=by rfl) (hz:12<=t/\t<=117:=by decide) (hn:kI i=none/\i≠0/\i≠136/\i≠137:=by decide):jD i:=by
 intro w0 b1 b5 v2 v4 v5 listed a w Q hs hI hi;obtain⟨o,ho,hd,hop,hg⟩:=lY so;obtain⟨ft,ct,het,Qv⟩:=hx hI hi;obtain⟨fl,cl,hel,hTl⟩:=hy hI hi;refine kE hs hI hi ho hg hd hz hn (v:=.agg #[.func (Fn.func ft) #[] ct,.slice none 0 0,.func (Fn.func fl) #[] cl,.int .i64 1]) (w':=w) (by simp only[execOp,hop,List.map_toArray,List.map_cons,List.map_nil,het,hel];go_simp) (Below.refl _ _) ?_;rw[ht];exact⟨_,_,_,_,rfl,Qv,(by intro i p h;simp at h),hTl⟩
theorem MU(t:Nat){x0:Operand}{p0:Int->Bool}(h0:KP i x0 p0)(so:SO i (some t) (Op.buildSlice 195 1 #[(0,x0)]):=by unfold SO;kernel_rfl) (ht:iH t= .qb [p0]:=by rfl) (hz:12<=t/\t<=117:=by decide) (hn:kI i=none/\i≠0/\i≠136/\i≠137:=by decide):jD i:=by
 intro w0 b1 b5 v2 v4 v5 listed a w Q hs hI hi;obtain⟨o,ho,hd,hop,hg⟩:=lY so;obtain⟨f0,c0,he0,hT0⟩:=h0 hI hi;refine kE hs hI hi ho hg hd hz hn (v:=.slice (some ⟨w.heap.size,0,none⟩) 1 1) (w':=w.alloc (.cells #[.func (Fn.func f0) #[] c0] 54)) (by simp only[execOp,hop,List.map_toArray,List.map_cons,List.map_nil,he0];go_simp) (af _ _) ?_;rw[ht];exact⟨_,_,rfl,Jb w 54 [.func (Fn.func f0) #[] c0] [p0] (.cons hT0 .nil)⟩
theorem Xg(t:Nat){x0 x1:Operand}{p0 p1:Int->Bool}(h0:KP i x0 p0)(h1:KP i x1 p1)(so:SO i (some t) (Op.buildSlice 195 2 #[(0,x0),(1,x1)]):=by unfold SO;kernel_rfl) (ht:iH t= .qb [p0,p1]:=by rfl) (hz:12<=t/\t<=117:=by decide) (hn:kI i=none/\i≠0/\i≠136/\i≠137:=by decide):jD i:=by
 intro w0 b1 b5 v2 v4 v5 listed a w Q hs hI hi;obtain⟨o,ho,hd,hop,hg⟩:=lY so;obtain⟨f0,c0,he0,hT0⟩:=h0 hI hi;obtain⟨f1,c1,he1,hT1⟩:=h1 hI hi;refine kE hs hI hi ho hg hd hz hn (v:=.slice (some ⟨w.heap.size,0,none⟩) 2 2) (w':=w.alloc (.cells #[.func (Fn.func f0) #[] c0,.func (Fn.func f1) #[] c1] 54)) (by simp only[execOp,hop,List.map_toArray,List.map_cons,List.map_nil,he0,he1];go_simp) (af _ _) ?_;rw[ht];exact⟨_,_,rfl,Jb w 54 [.func (Fn.func f0) #[] c0,.func (Fn.func f1) #[] c1] [p0,p1] (.cons hT0 (.cons hT1 .nil))⟩
theorem kF3(t:Nat){x0 x1 x2:Operand}{p0 p1 p2:Int->Bool}(h0:KP i x0 p0)(h1:KP i x1 p1)(h2:KP i x2 p2)(so:SO i (some t) (Op.buildSlice 195 3 #[(0,x0),(1,x1),(2,x2)]):=by unfold SO;kernel_rfl) (ht:iH t= .qb [p0,p1,p2]:=by rfl) (hz:12<=t/\t<=117:=by decide) (hn:kI i=none/\i≠0/\i≠136/\i≠137:=by decide):jD i:=by
 intro w0 b1 b5 v2 v4 v5 listed a w Q hs hI hi;obtain⟨o,ho,hd,hop,hg⟩:=lY so;obtain⟨f0,c0,he0,hT0⟩:=h0 hI hi;obtain⟨f1,c1,he1,hT1⟩:=h1 hI hi;obtain⟨f2,c2,he2,gX⟩:=h2 hI hi;refine kE hs hI hi ho hg hd hz hn (v:=.slice (some ⟨w.heap.size,0,none⟩) 3 3) (w':=w.alloc (.cells #[.func (Fn.func f0) #[] c0,.func (Fn.func f1) #[] c1,.func (Fn.func f2) #[] c2] 54)) (by simp only[execOp,hop,List.map_toArray,List.map_cons,List.map_nil,he0,he1,he2];go_simp) (af _ _) ?_;rw[ht];exact⟨_,_,rfl,Jb w 54 [.func (Fn.func f0) #[] c0,.func (Fn.func f1) #[] c1,.func (Fn.func f2) #[] c2] [p0,p1,p2] (.cons hT0 (.cons hT1 (.cons gX .nil)))⟩
theorem SG(t:Nat)(a0:Int)(so:SO i (some t) (Op.buildSlice 28 1 #[(0,Operand.const (Value.int IntKind.i64 a0))]):=by unfold SO;kernel_rfl) (ht:iH t= .ints [a0]:=by rfl) (hz:12<=t/\t<=117:=by decide) (hn:kI i=none/\i≠0/\i≠136/\i≠137:=by decide):jD i:=by
 intro w0 b1 b5 v2 v4 v5 listed a w Q hs hI hi;obtain⟨o,ho,hd,hop,hg⟩:=lY so;refine kE hs hI hi ho hg hd hz hn (v:=.slice (some ⟨w.heap.size,0,none⟩) 1 1) (w':=w.alloc (.cells #[.int .i64 a0] 3)) (by simp only[execOp,hop];go_simp) (af _ _) ?_;rw[ht];exact⟨_,_,rfl,IP w 3 [a0]⟩
theorem kI2(t:Nat)(a0 a1:Int)(so:SO i (some t) (Op.buildSlice 28 2 #[(0,Operand.const (Value.int IntKind.i64 a0)),(1,Operand.const (Value.int IntKind.i64 a1))]):=by unfold SO;kernel_rfl) (ht:iH t= .ints [a0,a1]:=by rfl) (hz:12<=t/\t<=117:=by decide) (hn:kI i=none/\i≠0/\i≠136/\i≠137:=by decide):jD i:=by
 intro w0 b1 b5 v2 v4 v5 listed a w Q hs hI hi;obtain⟨o,ho,hd,hop,hg⟩:=lY so;refine kE hs hI hi ho hg hd hz hn (v:=.slice (some ⟨w.heap.size,0,none⟩) 2 2) (w':=w.alloc (.cells #[.int .i64 a0,.int .i64 a1] 3)) (by simp only[execOp,hop];go_simp) (af _ _) ?_;rw[ht];exact⟨_,_,rfl,IP w 3 [a0,a1]⟩
theorem kS2(t:Nat)(a0 a1:ByteArray)(so:SO i (some t) (Op.buildSlice 41 2 #[(0,Operand.const (Value.string a0)),(1,Operand.const (Value.string a1))]):=by unfold SO;kernel_rfl) (ht:iH t= .strs [a0,a1]:=by rfl) (hz:12<=t/\t<=117:=by decide) (hn:kI i=none/\i≠0/\i≠136/\i≠137:=by decide):jD i:=by
 intro w0 b1 b5 v2 v4 v5 listed a w Q hs hI hi;obtain⟨o,ho,hd,hop,hg⟩:=lY so;refine kE hs hI hi ho hg hd hz hn (v:=.slice (some ⟨w.heap.size,0,none⟩) 2 2) (w':=w.alloc (.cells #[.string a0,.string a1] 9)) (by simp only[execOp,hop];go_simp) (af _ _) ?_;rw[ht];exact⟨_,_,rfl,Eo w 9 [a0,a1]⟩
theorem kL(t:Nat)  (so:SO i (some t) (Op.load 99 (Operand.tmp 1)):=by unfold SO;kernel_rfl) (ht:iH t= .text cZ:=by rfl) (hz:12<=t/\t<=117:=by decide) (hn:kI i=none/\i≠0/\i≠136/\i≠137:=by decide):jD i:=by
 intro w0 b1 b5 v2 v4 v5 listed a w Q hs hI hi;obtain⟨o,ho,hd,hop,hg⟩:=lY so;have ht1:=hI.t1;have hc:w.cell? ⟨b1,0,none⟩=some (.func (Fn.func 53) #[] #[]):=hI.k1.cell 0;refine kE hs hI hi ho hg hd hz hn (v:=.func (Fn.func 53) #[] #[]) (w':=w) (by simp only[execOp,hop];go_simp) (Below.refl _ _) ?_;rw[ht];exact SC w
theorem kM2(t:Nat)  (so:SO i (some t) (Op.move (Operand.tmp 2)):=by unfold SO;kernel_rfl) (ht:iH t= .kind (dF [11]):=by rfl) (hz:12<=t/\t<=117:=by decide) (hn:kI i=none/\i≠0/\i≠136/\i≠137:=by decide):jD i:=by
 intro w0 b1 b5 v2 v4 v5 listed a w Q hs hI hi;obtain⟨o,ho,hd,hop,hg⟩:=lY so;have ht2:=hI.t2;refine kE hs hI hi ho hg hd hz hn (v:=v2) (w':=w) (by simp only[execOp,hop];go_simp) (Below.refl _ _) ?_;rw[ht];exact hI.k2
theorem zN(t:Nat)  (so:SO i (some t) (Op.move (Operand.tmp 3)):=by unfold SO;kernel_rfl) (ht:iH t= .kind (bA):=by rfl) (hz:12<=t/\t<=117:=by decide) (hn:kI i=none/\i≠0/\i≠136/\i≠137:=by decide):jD i:=by
 intro w0 b1 b5 v2 v4 v5 listed a w Q hs hI hi;obtain⟨o,ho,hd,hop,hg⟩:=lY so;have ht3:=hI.t3;refine kE hs hI hi ho hg hd hz hn (v:=.func (Fn.func 190) #[] #[]) (w':=w) (by simp only[execOp,hop];go_simp) (Below.refl _ _) ?_;rw[ht];exact Xk w
theorem kM4(t:Nat)  (so:SO i (some t) (Op.move (Operand.tmp 4)):=by unfold SO;kernel_rfl) (ht:iH t= .kind (jE fq):=by rfl) (hz:12<=t/\t<=117:=by decide) (hn:kI i=none/\i≠0/\i≠136/\i≠137:=by decide):jD i:=by
 intro w0 b1 b5 v2 v4 v5 listed a w Q hs hI hi;obtain⟨o,ho,hd,hop,hg⟩:=lY so;have ht4:=hI.t4;refine kE hs hI hi ho hg hd hz hn (v:=v4) (w':=w) (by simp only[execOp,hop];go_simp) (Below.refl _ _) ?_;rw[ht];exact hI.k4
theorem kO(t u:Nat)(l:List Int)(so:SO i (some t) (Op.call { callee:=Callee.value (Operand.func 189),args:=#[Operand.tmp u],argTypes:=#[28] }):=by unfold SO;kernel_rfl) (h:qM i u:=by unfold qM;kernel_rfl) (hu:iH u= .ints l:=by rfl) (ht:iH t= .kind (dF l):=by rfl) (hl:l.length<=1000000:=by decide) (hz:12<=t/\t<=117:=by decide) (hn:kI i=none/\i≠0/\i≠136/\i≠137:=by decide):jD i:=by
 intro w0 b1 b5 v2 v4 v5 listed a w Q hs hI hi;obtain⟨o,ho,hd,hop,hg⟩:=lY so;obtain⟨v,hv,hT⟩:=hI.dep hi h;rw[hu]at hT;obtain⟨A,c,rfl,hr⟩:=hT;have he:=tL hv;refine Ep hs hI hi ho hg hd hz hn (f:=189) (args:=#[.slice A l.length c]) (by simp only[execOp,hop];go_simp) ?_;rw[ht];exact Sw A l.length c l w hr rfl hl
theorem kW(t u:Nat)(l:List ByteArray)(so:SO i (some t) (Op.call { callee:=Callee.value (Operand.func 193),args:=#[Operand.tmp u],argTypes:=#[41] }):=by unfold SO;kernel_rfl) (h:qM i u:=by unfold qM;kernel_rfl) (hu:iH u= .strs l:=by rfl) (ht:iH t= .text (uS l):=by rfl) (hl:l.length<=1000000:=by decide) (hz:12<=t/\t<=117:=by decide) (hn:kI i=none/\i≠0/\i≠136/\i≠137:=by decide):jD i:=by
 intro w0 b1 b5 v2 v4 v5 listed a w Q hs hI hi;obtain⟨o,ho,hd,hop,hg⟩:=lY so;obtain⟨v,hv,hT⟩:=hI.dep hi h;rw[hu]at hT;obtain⟨A,c,rfl,hr⟩:=hT;have he:=tL hv;refine Ep hs hI hi ho hg hd hz hn (f:=193) (args:=#[.slice A l.length c]) (by simp only[execOp,hop];go_simp) ?_;rw[ht];exact Od A l.length c l w hr rfl hl
theorem kQ(t u:Nat)(p:Int->Bool)(so:SO i (some t) (Op.call { callee:=Callee.value (Operand.func 191),args:=#[Operand.tmp u],argTypes:=#[54] }):=by unfold SO;kernel_rfl) (h:qM i u:=by unfold qM;kernel_rfl) (hu:iH u= .kind p:=by rfl) (ht:iH t= .kind (jE p):=by rfl) (hz:12<=t/\t<=117:=by decide) (hn:kI i=none/\i≠0/\i≠136/\i≠137:=by decide):jD i:=by
 intro w0 b1 b5 v2 v4 v5 listed a w Q hs hI hi;obtain⟨o,ho,hd,hop,hg⟩:=lY so;obtain⟨v,hv,hT⟩:=hI.dep hi h;rw[hu]at hT;have he:=tL hv;refine Ep hs hI hi ho hg hd hz hn (f:=191) (args:=#[v]) (by simp only[execOp,hop];go_simp) ?_;rw[ht];exact Dw v p w hT
theorem kN(k:Int)(u:Nat)(so:SO i none (Op.insert 191 (Operand.tmp 11) (Operand.const (Value.int IntKind.i64 k)) (Operand.tmp u)):=by unfold SO;kernel_rfl) (h:qM i u:=by unfold qM;kernel_rfl) (hn:kI i=some k:=by rfl) (h0:((dz Tryz.f141 4).toArray[i]?).map (fun o=>o.after.toList.any fun e=>Region.binds .any e&&(e.on==0))=some true:=by kernel_rfl) (hsh:(lJ k).map Tg.shape=some (iH u):=by rfl):jD i:=by
 intro w0 b1 b5 v2 v4 v5 listed a w Q hs hI hi;obtain⟨o,ho,hd,hop,hg⟩:=lY so;obtain⟨v,hv,hT⟩:=hI.dep hi h;exact YP hs hI hi ho hg hd hop hn (tL hv) (zg hi h0) hsh hT
end
theorem so_0:((dz Tryz.f141 4).toArray[0]?).map (fun o=>(o.dst,o.op,o.guard))=some (some 11,Op.makeMap 191 none,none):=by kernel_rfl
theorem so_40:((dz Tryz.f141 4).toArray[40]?).map (fun o=>(o.dst,o.op,o.guard))=some (some 43,Op.makeFunc (Fn.func 195) #[] #[Operand.tmp 5,Operand.tmp 1],none):=by kernel_rfl
theorem op_40:jD 40:=by
 intro w0 b1 b5 v2 v4 v5 listed a w Q hs hI hi;obtain⟨o,ho,hd,hop,hg⟩:=lY so_40;have ht1:=hI.t1;have ht5:=hI.t5;exact kE hs hI hi ho hg hd (by decide) (by decide) (v:=.func (Fn.func 195) #[] #[.pointer (some ⟨b5,0,none⟩),.pointer (some ⟨b1,0,none⟩)]) (w':=w) (by simp only[execOp,hop];go_simp) (Below.refl _ _) (XX w b5 b1 v5 _ _ _ hI.q5 (SC w) hI.k5 hI.k1)
theorem so_129:((dz Tryz.f141 4).toArray[129]?).map (fun o=>(o.dst,o.op,o.guard))=some (some 112,Op.buildSlice 41 13 #[(0,Operand.const (Value.string { data:=#[111,114] })),(1,Operand.const (Value.string { data:=#[97,110,100] })),(2,Operand.const (Value.string { data:=#[61,61] })),(3,Operand.const (Value.string { data:=#[33,61] })),(4,Operand.const (Value.string { data:=#[60] })),(5,Operand.const (Value.string { data:=#[60,61] })),(6,Operand.const (Value.string { data:=#[62] })),(7,Operand.const (Value.string { data:=#[62,61] })),(8,Operand.const (Value.string { data:=#[43] })),(9,Operand.const (Value.string { data:=#[45] })),(10,Operand.const (Value.string { data:=#[42] })),(11,Operand.const (Value.string { data:=#[47] })),(12,Operand.const (Value.string { data:=#[37] }))],none):=by kernel_rfl
theorem op_129:jD 129:=by
 intro w0 b1 b5 v2 v4 v5 listed a w Q hs hI hi;obtain⟨o,ho,hd,hop,hg⟩:=lY so_129;refine kE hs hI hi ho hg hd (by decide) (by decide) (v:=.slice (some ⟨w.heap.size,0,none⟩) 13 13) (w':=w.alloc (.cells #[.string ⟨#[111,114]⟩,.string ⟨#[97,110,100]⟩,.string ⟨#[61,61]⟩,.string ⟨#[33,61]⟩,.string ⟨#[60]⟩,.string ⟨#[60,61]⟩,.string ⟨#[62]⟩,.string ⟨#[62,61]⟩,.string ⟨#[43]⟩,.string ⟨#[45]⟩,.string ⟨#[42]⟩,.string ⟨#[47]⟩,.string ⟨#[37]⟩] 9)) (by simp only[execOp,hop];go_simp) (af _ _) ?_;exact⟨_,_,rfl,Eo w 9 QT⟩
theorem so_136:((dz Tryz.f141 4).toArray[136]?).map (fun o=>(o.dst,o.op,o.guard))=some (some 118,Op.move (Operand.tmp 11),none):=by kernel_rfl
theorem so_137:((dz Tryz.f141 4).toArray[137]?).map (fun o=>(o.dst,o.op,o.guard))=some (some 0,Op.assign (Operand.tmp 118),none):=by kernel_rfl
end Go.Proofs.YtoepemlnlpamlaaGreat
