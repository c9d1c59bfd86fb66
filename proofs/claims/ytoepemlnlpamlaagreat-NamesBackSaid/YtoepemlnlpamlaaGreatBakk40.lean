/- The law NamesBack holds for every text and every number: it returns true, and its arguments read as before. No condition. Part 40: BackP BkR BkN. -/
import Derived.Test.YtoepemlnlpamlaaGreatBakk04
import Derived.Test.YtoepemlnlpamlaaGreatBakk37
import Derived.Test.YtoepemlnlpamlaaGreatBakk39
set_option maxRecDepth 100000
set_option maxHeartbeats 4000000
namespace Go.Proofs.YtoepemlnlpamlaaGreat
mutual
def qd(P:ByteArray->Prop):aa->Prop
 | .node _ x _ _ kids=>P x/\jG P kids
def jG(P:ByteArray->Prop):List aa->Prop
 | []=>True
 | t::ts=>qd P t/\jG P ts
end
section
variable {P:ByteArray->Prop}
theorem Hm:∀{a b:List aa},jG P a->jG P b->jG P (a++b)
 | [],_,_,h=>h
 | t::a,b,h,k=>by
  rw[jG]at h;rw[List.cons_append,jG];exact⟨h.1,Hm h.2 k⟩
theorem bI{t:aa}(h:qd P t):jG P [t]:=by
 rw[jG,jG];exact⟨h,trivial⟩
theorem il:jG P []:=by
 rw[jG];trivial
theorem tZ{a:List aa}{t:aa}(h:jG P a)(k:qd P t):jG P (a++[t]):=Hm h (bI k)
theorem jX{a:List aa}{t:aa}(k:qd P t)(h:jG P a):jG P (t::a):=by
 rw[jG];exact⟨k,h⟩
mutual
theorem LB:∀{t:aa},qd P t->∀y∈dV t,P y.text
 | .node k x a z kids,h,y,hy=>by
  rw[qd]at h;rw[dV]at hy;rcases List.mem_cons.1 hy with rfl|hy
  ·exact h.1
  ·exact LC h.2 y hy
theorem LC:∀{ts:List aa},jG P ts->∀y∈dh ts,P y.text
 | [],_,y,hy=>by cases hy
 | t::ts,h,y,hy=>by
  rw[jG]at h;rw[dh]at hy;rcases List.mem_append.1 hy with hy|hy
  ·exact LB h.1 y hy
  ·exact LC h.2 y hy
end
variable {s:aP}{l:List jl}
structure TxP (P:ByteArray->Prop) (s:aP) (l:List jl):Prop where
 c0:P (aU [])
 cb:P (aU [98,111,111,108])
 ci:P (aU [105,110,116])
 cn:P (aU [110,111,116])
 cm:P (aU [45])
 w:∀k,P (aU (bE s l k))
 d:∀k,P (aU (eG (bE s l k)))
theorem bU{p:PS}{first:Nat}{kind:Int}{text:aP}{kids:List aa}(h:P (aU text))(hk:jG P kids):qd P (aH l p first kind text kids):=by
 unfold aH;rw[qd];exact⟨h,hk⟩
variable (H:TxP P s l)
include H
theorem rO(p:PS):P (aU (cB s l p)):=by
 unfold cB;split
 ·exact H.w _
 ·exact H.c0
theorem typ_all(p:PS):qd P (qa s l p).1:=by
 unfold qa;split
 ·exact bU H.cb il
 split
 ·simp only
  split
  ·refine bU ?_ il
   split
   ·exact H.d _
   ·exact H.c0
  ·exact bU H.ci il
 split
 ·exact bU (H.w _) il
 ·exact bU H.c0 il
theorem LV(p:PS):qd P (ib s l p).1:=by
 unfold ib;split
 ·exact typ_all H _
 ·exact bU H.c0 il
theorem Ng(p:PS):qd P (ja s l p).1:=by
 unfold ja;simp only;split
 ·exact bU (rO H p) (bI (bU (H.w _) il))
 ·exact bU (rO H p) (bI (bU H.c0 il))
theorem KH:∀(f:Nat) (p:PS) (kids:List aa) (y:List aa×PS),kr s l f p kids=some y->jG P kids->jG P y.1
 | 0,_,_,_,h,_=>by cases h
 | f+1,p,kids,y,h,hk=>by
  rw[kr]at h;split at h
  ·exact KH f _ _ y h (tZ hk (Ng H _))
  ·cases h
   exact hk
theorem Um{f:Nat}{p:PS}{y:aa×PS}(h:lK s l f p=some y):qd P y.1:=by
 unfold lK at h;simp only at h;split at h
 ·cases h
 ·rename_i kids p3 hf
  cases h
  exact bU (rO H _) (KH H f _ _ _ hf (bI (Ng H _)))
theorem MM(p:PS):qd P (fH s l p).1:=by
 unfold fH;simp only;exact bU (rO H _) (bI (LV H _))
theorem Gz:∀(f:Nat) (p:PS) (kids:List aa) (y:List aa×PS),jd s l f p kids=some y->jG P kids->jG P y.1
 | 0,_,_,_,h,_=>by cases h
 | f+1,p,kids,y,h,hk=>by
  rw[jd]at h;split at h
  ·exact Gz f _ _ y h (tZ hk (MM H _))
  ·cases h
   exact hk
theorem UU{f:Nat}{p:PS}{y:aa×PS}(h:nN s l f p=some y):qd P y.1:=by
 unfold nN at h;simp only at h;split at h
 ·cases h
 ·rename_i kids p2 hf
  cases h
  refine bU H.c0 ?_;split at hf
  ·cases hf
   exact il
  ·exact Gz H f _ _ _ hf (bI (MM H _))
theorem FP(p:PS):qd P (jL s l p).1:=by
 unfold jL;simp only;exact bU (rO H p) il
theorem Rz{f:Nat}{p:PS}{y:aa×PS}(h:mR s l f p=some y):qd P y.1:=by
 unfold mR at h;split at h
 ·cases h
 ·cases h
  exact bU H.c0 il
def aaB(P:ByteArray->Prop):Fn->Prop
 | .qL _ _ x=>qd P x
 | .mM kids=>jG P kids
 | .nJ kids=>jG P kids
 | _=>True
theorem par_all:∀(f:Nat) (fn:Fn) (p:PS) (y:List aa×PS),aJ s l f fn p=some y->aaB P fn->jG P y.1:=by
 intro f
 induction f with
 | zero=>intro fn p y h;simp[aJ]at h
 | succ f ih=>
  have fM:∀{fn:Fn}{p:PS}{g:aa->PS->Option (List aa×PS)}{y:List aa×PS},one (aJ s l f fn p) g=some y->aaB P fn->(∀x q,qd P x->g x q=some y->jG P y.1)->jG P y.1:=by
   intro fn p g y h hf hg;obtain⟨x,q,h1,h2⟩:=ek h;have:=ih _ _ _ h1 hf;rw[jG]at this;exact hg x q this.1 h2
  have many1:∀{fn:Fn}{p:PS}{g:List aa->PS->Option (List aa×PS)}{y:List aa×PS},xH (aJ s l f fn p) g=some y->aaB P fn->(∀x q,jG P x->g x q=some y->jG P y.1)->jG P y.1:=by
   intro fn p g y h hf hg;obtain⟨x,q,h1,h2⟩:=sU h;exact hg x q (ih _ _ _ h1 hf) h2
  intro fn p y h hfn
  cases fn with
  | expr lv=>
   rw[aJ]at h;split at h
   ·split at h
    ·exact fM h trivial fun x q hx h=>by cases h;exact bI (bU H.cn (bI hx))
    ·exact ih _ _ _ h trivial
   split at h
   ·split at h
    ·exact fM h trivial fun x q hx h=>by cases h;exact bI (bU H.cm (bI hx))
    ·exact ih _ _ _ h trivial
   ·exact fM h trivial fun x q hx h=>ih _ _ _ h hx
  | qL lv first x=>
   rw[aJ]at h;split at h
   ·refine fM h trivial fun x2 q hx h=>?_
    try simp only at h
    have hz:qd P (aH l q first 29 (bE s l p.k) [x,x2]):=bU (H.w _) (jX hfn (bI hx));split at h
    ·cases h
     exact bI hz
    ·exact ih _ _ _ h hz
   ·cases h
    exact bI hfn
  | operand=>
   rw[aJ]at h;split at h
   ·cases h
    exact bI (bU (H.d _) il)
   split at h
   ·cases h
    exact bI (bU (H.w _) il)
   split at h
   ·exact many1 h trivial fun x q hx h=>by cases h;exact bI (bU (H.w _) hx)
   split at h
   ·exact ih _ _ _ h trivial
   split at h
   ·refine fM h trivial fun x q hx h=>many1 h (bI hx) fun x2 q2 hx2 h=>by cases h;exact bI (bU H.c0 hx2)
   split at h
   ·cases h
    exact bI (bU H.c0 (bI (FP H _)))
   split at h
   ·exact fM h trivial fun x q hx h=>by cases h;exact bI hx
   ·cases h
    exact bI (bU H.c0 il)
  | args=>
   rw[aJ]at h;try simp only at h
   split at h
   ·cases h
    exact il
   ·exact fM h trivial fun x q hx h=>many1 h (bI hx) fun x2 q2 hx2 h=>by cases h;exact hx2
  | mM kids=>
   rw[aJ]at h;split at h
   ·exact fM h trivial fun x q hx h=>ih _ _ _ h (tZ hfn hx)
   ·cases h
    exact hfn
  | place=>
   rw[aJ]at h;try simp only at h
   split at h
   ·exact fM h trivial fun x q hx h=>by cases h;exact bI (bU H.c0 (jX (FP H _) (bI hx)))
   split at h
   ·cases h
    exact bI (bU (rO H _) (bI (FP H _)))
   ·cases h
    exact bI (FP H _)
  | stmt=>
   rw[aJ]at h;split at h
   ·simp only at h
    exact fM h trivial fun x q hx h=>by cases h;exact bI (bU (rO H _) (jX (LV H _) (bI hx)))
   split at h
   ·exact ih _ _ _ h trivial
   split at h
   ·exact fM h trivial fun x q hx h=>fM h trivial fun x2 q2 hx2 h=>by cases h;exact bI (bU H.c0 (jX hx (bI hx2)))
   split at h
   ·simp only at h
    exact fM h trivial fun x q hx h=>fM h trivial fun x2 q2 hx2 h=>fM h trivial fun x3 q3 hx3 h=>by cases h;exact bI (bU (rO H _) (jX hx (jX hx2 (bI hx3))))
   split at h
   ·simp only at h
    split at h
    ·exact fM h trivial fun x q hx h=>by cases h;exact bI (bU H.c0 (bI hx))
    ·cases h
     exact bI (bU H.c0 (bI (bU H.c0 il)))
   split at h
   ·exact fM h trivial fun x q hx h=>by cases h;exact bI (bU H.c0 (bI hx))
   split at h
   ·exact many1 h trivial fun x q hx h=>by cases h;exact bI (bU (H.w _) hx)
   split at h
   ·exact fM h trivial fun x q hx h=>fM h trivial fun x2 q2 hx2 h=>by cases h;exact bI (bU H.c0 (jX hx (bI hx2)))
   split at h
   ·cases h
   ·rename_i hf
    cases h
    exact bI (Rz H hf)
  | block=>
   rw[aJ]at h;split at h
   ·exact many1 h (il (P:=P)) fun x q hx h=>by cases h;exact bI (bU H.c0 hx)
   ·cases h
    exact bI (bU H.c0 il)
  | nJ kids=>
   rw[aJ]at h;split at h
   ·cases h
    exact hfn
   ·exact fM h trivial fun x q hx h=>ih _ _ _ h (tZ hfn hx)
  | branch=>
   rw[aJ]at h;refine fM h trivial fun x q hx h=>fM h trivial fun x2 q2 hx2 h=>?_
   split at h
   ·split at h
    ·exact fM h trivial fun x3 q3 hx3 h=>by cases h;exact bI (bU H.c0 (jX hx (jX hx2 (bI hx3))))
    ·exact fM h trivial fun x3 q3 hx3 h=>by cases h;exact bI (bU H.c0 (jX hx (jX hx2 (bI hx3))))
   ·cases h
    exact bI (bU H.c0 (jX hx (jX hx2 (bI (bU H.c0 il)))))
theorem Y3{f:Nat}{p:PS}{y:aa×PS}(h:qm s l f p=some y):qd P y.1:=by
 unfold qm at h;simp only at h;split at h
 ·cases h
 ·rename_i x p2 hf
  split at h
  ·rename_i b p3 hb
   cases h
   have:=par_all H f _ _ _ hb trivial;rw[jG]at this;exact bU (rO H _) (jX (UU H hf) (jX (LV H _) (bI this.1)))
  ·cases h
theorem CE:∀(f:Nat) (p:PS) (kids:List aa) (y:List aa×PS),jw s l f p kids=some y->jG P kids->jG P y.1
 | 0,_,_,_,h,_=>by cases h
 | f+1,p,kids,y,h,hk=>by
  rw[jw]at h;split at h
  ·cases h
   exact hk
  split at h
  ·split at h
   ·cases h
   ·rename_i hf
    exact CE f _ _ y h (tZ hk (Um H hf))
  split at h
  ·split at h
   ·cases h
   ·rename_i hf
    exact CE f _ _ y h (tZ hk (Y3 H hf))
  ·split at h
   ·cases h
   ·exact CE f _ _ y h (tZ hk (bU H.c0 il))
end
theorem WR{P:ByteArray->Prop}{s:aP}(H:TxP P s (iK s)){f:Nat}{t:aa}{ds:List Dg}(h:lL f s=some (t,ds)):qd P t:=by
 unfold lL at h;split at h
 ·cases h
 ·rename_i kids p hf
  cases h
  rw[qd];exact⟨H.c0,CE H f _ _ _ hf il⟩
end Go.Proofs.YtoepemlnlpamlaaGreat
namespace Go.Proofs.YtoepemlnlpamlaaGreat
open Go.RowKit
theorem gB.U2{w:World}{B:Nat}:∀{ts:List aa}{vals:List (List Value)},gB w B ts vals->vals.length=ts.length/\(∀v∈vals,v.length=5)/\(List.flatten vals).length=ts.length*5/\∀u∈List.flatten vals,u.oneCell'=true
 | [],vals,h=>by
  cases h
  exact⟨rfl,fun v hv=>(by cases hv),rfl,fun v hv=>(by cases hv)⟩
 | t::ts,vals,h=>by
  obtain⟨v,vs,rfl,hT,hr⟩:=h;obtain⟨h1,h2,h3,h4⟩:=gB.U2 hr;obtain⟨A,c,rfl,-⟩:=hT.five;refine⟨by simp[h1],fun v hv=>?_,by simp only[List.flatten_cons,aaO,aaQ,h3,List.length_nil];omega,fun u hu=>?_⟩
  ·rcases List.mem_cons.1 hv with rfl|hv
   ·rfl
   ·exact h2 v hv
  ·rw[List.flatten_cons,List.mem_append]at hu
   rcases hu with hu|hu
   ·simp only[List.mem_cons,List.not_mem_nil,or_false]at hu
    rcases hu with rfl|rfl|rfl|rfl|rfl<;>rfl
   ·exact h4 u hu
theorem aD.vals0{w:World}{B:Nat}{A:Option Addr}{ts:List aa}(h:aD w B A 0 ts):∃vals,gB w B ts vals/\∀j u,(List.flatten vals)[j]? =some u->∃a,A=some a/\w.cell? (a.add j)=some u:=by
 by_cases hn:ts=[]
 ·subst hn
  exact⟨[],rfl,fun j u hj=>(by simp at hj)⟩
 ·obtain⟨b,off,vals,hA,-,hv,hc⟩:=h.flat hn
  refine⟨vals,hv,fun j u hj=>⟨_,hA,?_⟩⟩;have:=hc j u hj;rw[Addr.add_lit];simpa using this
theorem VK(ts:List aa)(A:Option Addr)(n c B:Nat)(w:World)(hk:aD w B A 0 ts)(hB:B<=w.heap.size)(hn:ts.length=n)(hnb:n<=1000000):
 Calls Tryz.prog 97 #[.slice A n c] w fun e w'=> ∃A' c' vals,e= .returned (.slice A' n c')/\n<=c'/\gB w B ts vals/\aL w' w.heap.size 24 5 (.slice A' n c') n (List.flatten vals)/\Below w.heap.size w w':=by
 obtain⟨i0,hi0,hz0,hz1,hz2⟩:=info_parts qp;have hnil:∀w:World,(binOp .eql 22 (.slice A n c) (.slice none 0 0)).run Tryz.prog w= .ok (.bool A.isNone) w:=fun w=>Lib.run_eql_slice_nil w 22 24 A n c 0 0 Tryz.underlying22
 obtain⟨vals,hv,hc⟩:=hk.vals0;obtain⟨h1,h2,h3,h4⟩:=hv.U2
 cases A with
 | none=>
  have hn0:n=0:=by
   cases ts with
   | nil=>exact hn.symm
   | cons t ts=>
    obtain⟨⟨b,off,cs,hA,-⟩,-⟩:=hk;cases hA
  subst hn0;have kP:vals=[]:=List.eq_nil_of_length_eq_zero (h1.trans hn);have HV:=kH hv;have HVN:=kH kP;clear hk hc h1 h2 h3 h4 hv kP hn;go_enter Tryz.func97,Tryz.ntmps97
  go_wp2_with fail
  go_ret
  exact⟨none,0,vals,rfl,aaD _,HV.out,by rw[HVN.out];exact aL.nil _ _ _ _,by(repeat (first|exact Below.refl _ _|assumption|refine Below.trans ?_ (Below.mono (by assumption) (by first|omega|(simp;done)|(simp;omega)))|refine Below.alloc ?_ (by first|omega|(simp;done)|(simp;omega)) _|refine Below.setCell ?_ (by first|omega|(simp;done)|(simp;omega)) _|refine Below.drew ?_|refine aY ?_ _))⟩
 | some ad=>
  have hown0:aL (w.alloc (.cells #[] 24)) w.heap.size 24 5 (.slice (some ⟨w.heap.size,0,none⟩) 0 0) 0 []:=
   aL.block (n:=0) (cur:=#[]) (aaD _) (heap_alloc_new w _) (by simp[maxLen]) rfl
  have hcell':∀j u,(List.flatten vals)[j]? =some u->(w.alloc (.cells #[] 24)).cell? (ad.add j)=some u:=fun j u hj=>by
   obtain⟨a,ha,hcc⟩:=hc j u hj;cases ha
   have hne:ts≠[]:=fun e=>by
    subst e;cases hv
    simp at hj
   obtain⟨b,off,-,hA,hb,-,-⟩:=hk.flat hne;cases hA
   rw[Addr.add_lit]at hcc⊢;rw[World.cell?_alloc_lt _ _ _ (show b<w.heap.size by omega)];exact hcc
  have HC:=kH hcell';have HL:Hid ((List.flatten vals).length=n*5):=kH (by rw[<- hn];exact h3);have HO:=kH hown0;have H1:=kH h4;have HV:=kH hv;clear hk hc h1 h2 h3 h4 hv hown0 hcell' hn;go_enter Tryz.func97,Tryz.ntmps97
  go_wp2_with (at_builtin;refine dm _ rfl (.tmp 5) (.tmp 6) _ rfl w.heap.size 24 i0 _ 5 64 Tryz.underlying22 hi0 hz0 hz1 hz2 rfl (.slice (some ⟨w.heap.size,0,none⟩) 0 0) 0 [] rfl HO.out ad n c (List.flatten vals) rfl HL.out HC.out H1.out (by simp only[maxLen];omega) (by omega) (by simp) ?_;intro v' w1 hown hgrow hat;rw[Nat.zero_add,List.nil_append]at hown;obtain⟨A6,c6,kP,hnc,-⟩:=hown.shape;subst kP;have HOWN:=kH hown;have nW:=kH hgrow;have HNC:=kH hnc;clear hown hgrow hat hnc)
  go_ret
  exact⟨A6,c6,vals,rfl,HNC.out,HV.out,HOWN.out,((Below.refl _ _).alloc (aaD _) _).grown nW.out (by simp) (by simp[Value.ownBlock])⟩
def si(us:List Int)(n:Nat):Bool:=us.any fun y=>decide ((n:Int)=y)
def RnL(nm:ByteArray)(us:List Int)(nb:Nat)(t:aa)(k0:Nat)(w:World)(e:Ending)(w':World):Prop:=
 ∃A' c',e= .returned (aX (dU nm (si us) t k0) A' c')/\bL w' w.heap.size (.slice A' (dU nm (si us) t k0).kids.length c') (dU nm (si us) t k0).kids.length (dU nm (si us) t k0).kids/\ai w' nb 3 #[.int .i64 ((k0+ah t:Nat):Int)]/\az (fun g=>g=nb) w w'
def RnC(B nb:Nat)(nm:ByteArray)(us:List Int)(uA:Option Addr)(un uc:Nat)(t:aa):Prop:=
 ∀(k0:Nat) (A:Option Addr) (c:Nat) (w:World),aD w B A 0 t.kids->B<=w.heap.size->(∀W,az (fun g=>g=nb) w W->bW 1 dM W W.heap.size uA us)->ai w nb 3 #[.int .i64 (k0:Int)]->k0+ah t<=1000000 ->
  Calls Tryz.prog 54 #[aX t A c,.slice uA un uc,.string nm,.pointer (some ⟨nb,0,none⟩)] w (RnL nm us nb t k0 w)
theorem OM{nm:ByteArray}{U:Nat->Bool}:∀(a:List aa) (u:aa) (n:Nat),dD nm U (a++[u]) n=dD nm U a n++[dU nm U u (n+ag a)]
 | [],u,n=>by simp[dD,ag]
 | t::a,u,n=>by rw[List.cons_append,dD,dD,OM a u,List.cons_append,ag,Nat.add_assoc]
structure RnS (nm:ByteArray) (us:List Int) (nb L B:Nat) (kids:List aa) (vals:List (List Value)) (A2:Option Addr) (n c2 k0:Nat) (w W5:World) (box:Array Value) (i:Nat) (done:List (List Value)) (wr:World):Prop where
 box:ai wr w.heap.size 24 box
 zero:ai wr (w.heap.size+1) 24 #[.int .i64 0,.string ⟨#[]⟩,.int .i64 0,.int .i64 0,.slice none 0 0]
 next:ai wr nb 3 #[.int .i64 ((k0+1+ag (kids.take i):Nat):Int)]
 row:aL wr L 24 5 (.slice A2 n c2) n (List.flatten (done++vals.drop i))
 own:bM wr (fun g=>L<=g/\some g≠(Value.slice A2 n c2).ownBlock) (dD nm (si us) (kids.take i) (k0+1)) done
 len:done.length=i
 five:∀v∈done++vals.drop i,v.length=5
 since:az (fun g=>g=nb) w wr
 low:Below B W5 wr
theorem OT(B nb:Nat)(hnb:B<=nb)(nm:ByteArray)(us:List Int)(uA:Option Addr)(un uc:Nat)(yP:us.length=un)(hun:un<=1000000)(k:Int)(x:ByteArray)(a z:Int)(kids:List aa)(hih:∀u∈kids,RnC B nb nm us uA un uc u):RnC B nb nm us uA un uc (.node k x a z kids):=by
 intro k0 A c w hk hB hR hb hN;obtain⟨n,hn⟩:∃q,kids.length=q:=⟨_,rfl⟩
 have hnode:aX (.node k x a z kids) A c= .agg #[.int .i64 k,.string x,.int .i64 a,.int .i64 z,.slice A n c]:=by rw[<- hn];rfl
 rw[hnode];rw[ah]at hN;have hkl:=kC kids;have hnn:n<=1000000:=by omega
 have hk0:k0<=999999:=by omega
 obtain⟨ub,hub⟩:∃q,si us k0=q:=⟨_,rfl⟩
 obtain⟨xt,hxt⟩:∃q,(if ub=true then nm else x)=q:=⟨_,rfl⟩
 have hlb:=hb.lt;have HK:Hid (aD w B A 0 kids):=kH hk;have eH:=kH hih;have HN:=kH hn;have Lg:Hid (k0+1+ag kids<=1000000):=kH (by omega);have xh:=kH hub;have xg:=kH yP;have Tu:=kH hxt;have jc:Hid (B<=w.heap.size/\B<=nb/\nb<w.heap.size):=kH ⟨hB,hnb,hlb⟩;have HB:=kH hb;have HR:=kH hR;have hne:nb≠w.heap.size:=by omega
 clear hk hih hn hN hkl hub yP hB hnb hlb hb hR hnode hxt;go_enter Tryz.func54,Tryz.ntmps54
 obtain⟨W2,hW2⟩:∃W,(w.alloc (.cells #[.int .i64 k,.string x,.int .i64 a,.int .i64 z,.slice A n c] 24)).alloc (.cells #[.int .i64 0,.string ⟨#[]⟩,.int .i64 0,.int .i64 0,.slice none 0 0] 24)=W:=⟨_,rfl⟩
 have hb2:Below w.heap.size w W2:=by rw[<- hW2];exact((Below.refl _ w).alloc (aaD _) _).alloc (by simp) _
 have gX:ai W2 w.heap.size 24 #[.int .i64 k,.string x,.int .i64 a,.int .i64 z,.slice A n c]:=by rw[<- hW2];exact(ai.new w _ _).alloc _
 have hZ2:ai W2 (w.heap.size+1) 24 #[.int .i64 0,.string ⟨#[]⟩,.int .i64 0,.int .i64 0,.slice none 0 0]:=by
  rw[<- hW2];have:=ai.new (w.alloc (.cells #[.int .i64 k,.string x,.int .i64 a,.int .i64 z,.slice A n c] 24)) 24 #[.int .i64 0,.string ⟨#[]⟩,.int .i64 0,.int .i64 0,.slice none 0 0];simpa using this
 have wN:=HB.out.below hb2 jc.out.2.2;have p0:=wN.cell 0;have lp:=wN.lt;have p1:=gX.cell 1;have f1:=gX.frozen 1;have lt:=gX.lt;have HB2:=kH hb2;have HT2:=kH gX;have HZ2:=kH hZ2;have Bd:=kH wN;have HR2:=kH (HR.out W2 ((az.refl _ w).below hb2));clear hb2 gX hZ2 wN;go_wp2_with (rw[hW2])
 clear hW2;refine(DY uA un uc us (k0:Int) W2 HR2.out xg.out hun).mono ?_;rintro e w3 ⟨rfl,rfl⟩;rw[show(us.any fun y=>decide ((k0:Int)=y))=ub from xh.out];go_upto_if 15 with fail
 go_cut [] (fun wx=>Hid (ai wx w.heap.size 24 #[.int .i64 k,.string xt,.int .i64 a,.int .i64 z,.slice A n c]/\az (fun g=>g=w.heap.size) W2 wx))
 case first=>
  cases ub with
  | true=>
   have hx:nm=xt:=by rw[<- Tu.out];rfl
   subst hx;have hS:Hid (ai (W2.setCell ⟨w.heap.size,1,none⟩ (.string nm)) w.heap.size 24 #[.int .i64 k,.string nm,.int .i64 a,.int .i64 z,.slice A n c]/\az (fun g=>g=w.heap.size) W2 (W2.setCell ⟨w.heap.size,1,none⟩ (.string nm))):=kH ⟨by simpa using HT2.out.fU 1 (.string nm),(az.refl (fun g=>g=w.heap.size) W2).setCell (p:=⟨w.heap.size,1,none⟩) (.inl rfl) _⟩;go_wp2_with fail
   go_meet
   exact hS
  | false=>
   have hx:x=xt:=by rw[<- Tu.out];rfl
   subst hx;go_wp2_with fail
   go_meet
   exact kH ⟨HT2.out,az.refl _ _⟩
 case rest=>
  have hS:=hcut.out;have hTc:=hS.1;have hNc:ai wc nb _ _:=Bd.out.since hS.2 hne;have XC:ai wc (w.heap.size+1) _ _:=HZ2.out.since hS.2 (by omega);have hs2:az (fun g=>g=nb) w wc:=((az.refl _ w).below HB2.out).step hS.2 (fun g hg=>.inr (by omega));obtain⟨W5,oz⟩:∃W,wc.setCell ⟨nb,0,none⟩ (.int .i64 ((k0:Int)+1))=W:=⟨_,rfl⟩
  have hs5:az (fun g=>g=nb) wc W5:=by rw[<- oz];exact(az.refl (fun g=>g=nb) wc).setCell (p:=⟨nb,0,none⟩) (.inl rfl) _
  have gT:ai W5 w.heap.size _ _:=hTc.since hs5 (fun e=>hne e.symm);have hZ5:ai W5 (w.heap.size+1) _ _:=XC.since hs5 (by have:=jc.out;omega);have DR:ai W5 nb 3 #[.int .i64 ((k0:Int)+1)]:=by rw[<- oz];simpa using hNc.fU 0 (.int .i64 ((k0:Int)+1))
  have Vk:az (fun g=>g=nb) w W5:=hs2.trans hs5;have hlow:Below B w W5:=Vk.toBelow jc.out.1 (fun g hg=>by rw[hg];exact jc.out.2.1);have hB5:B<=W5.heap.size:=aaE jc.out.1 Vk.size;have hcl:=VK kids A n c B W5 (aD.below hlow (aaD _) _ _ _ HK.out) hB5 HN.out hnn;have q0:=hNc.cell 0;have g0:=hNc.frozen 0;have lq:=hNc.lt;have q4:=gT.cell 4;have g4:=gT.frozen 4;have l4:=gT.lt;have HT5:=kH gT;have G9:=kH hZ5;have Ea:=kH DR;have HS5:=kH Vk;have iQ:=kH hB5;have NC:=kH hcl;have hw1:IntKind.i64.wrap ((k0:Int)+1)=(k0:Int)+1:=IntWalk.i64_in _ (by omega);clear hS hTc hNc XC hs2 hs5 gT hZ5 DR Vk hlow hB5 hcl hcut p0 lp p1 f1 lt;go_wp2_with (rw[oz])
  clear oz q0 g0 lq;refine NC.out.mono ?_;rintro e w6 ⟨A2,c2,vals,rfl,hnc,hv,hO,hb6⟩;have nQ:=HT5.out.below hb6 HT5.out.lt;obtain⟨W7,uC⟩:∃W,w6.setCell ⟨w.heap.size,4,none⟩ (.slice A2 n c2)=W:=⟨_,rfl⟩
  have hs7:az (fun g=>g=w.heap.size) w6 W7:=by rw[<- uC];exact(az.refl (fun g=>g=w.heap.size) w6).setCell (p:=⟨w.heap.size,4,none⟩) (.inl rfl) _
  have jS:ai W7 w.heap.size 24 #[.int .i64 k,.string xt,.int .i64 a,.int .i64 z,.slice A2 n c2]:=by rw[<- uC];simpa using nQ.fU 4 (.slice A2 n c2)
  have hZ7:ai W7 (w.heap.size+1) _ _:=(G9.out.below hb6 G9.out.lt).since hs7 (by omega);have hN7:ai W7 nb _ _:=(Ea.out.below hb6 Ea.out.lt).since hs7 hne;have hO7:aL W7 W5.heap.size 24 5 (.slice A2 n c2) n (List.flatten vals):=hO.since hs7 (fun g hg e=>by have:=(hO.lt g hg).1;have:=G9.out.lt;omega);have hsw7:az (fun g=>g=nb) w W7:=(HS5.out.below hb6).step hs7 (fun g hg=>.inr (by omega));have hlo7:Below B W5 W7:=(hb6.mono iQ.out).trans (hs7.toBelow (aaE iQ.out hb6.size) (fun g hg=>by have:=jc.out;omega));have h0:RnS nm us nb W5.heap.size B kids vals A2 n c2 k0 w W5 #[.int .i64 k,.string xt,.int .i64 a,.int .i64 z,.slice A2 n c2] 0 [] W7:=⟨jS,hZ7,by simpa [ag] using hN7,by simpa using hO7,by simp[dD,bM],rfl,by simpa using hv.U2.2.1,hsw7,hlo7⟩
  have H0:=kH h0;have HV:=kH hv;have r4:=nQ.cell 4;have t4:=nQ.frozen 4;have l6:=nQ.lt;have s4:=jS.cell 4;have l7:=jS.lt;clear hnc hv hO hb6 nQ hs7 jS hZ7 hN7 hO7 hsw7 hlo7 h0 q4 g4 l4 NC;go_wp2_with (rw[uC])
  clear uC r4 t4 l6 s4 l7;go_loopg [30] n (fun gk s wr=> ∃(i:Nat) (done:List (List Value)),i+gk=n/\s= .int .i64 (i:Int)/\Hid (RnS nm us nb W5.heap.size B kids vals A2 n c2 k0 w W5 #[.int .i64 k,.string xt,.int .i64 a,.int .i64 z,.slice A2 n c2] i done wr))
  case atStart=>exact⟨0,[],by omega,rfl,H0⟩
  case round=>
   obtain⟨i,done,hi,rfl,HS⟩:=hrel;have hS:=HS.out;have b4:=hS.box.cell 4;have lb:=hS.box.lt;have HI:=kH hi;have hi':i<=n:=by omega
   by_cases hlt:i<n
   ·have hlt':(i:Int)<(n:Int):=by omega
    obtain⟨u,hu⟩:∃u,kids[i]? =some u:=⟨_,aaH (by rw[HN.out];exact hlt)⟩
    obtain⟨v,hv,hT⟩:=HV.out.nth i u hu;obtain⟨B1,d1,hvv,hq⟩:=hT.five;subst hvv;obtain⟨g,off,cap,hA,-,-,hLg,hgw,-⟩:=hS.row.form (by omega);simp only[Value.slice.injEq,true_and]at hA;obtain⟨rfl,rfl⟩:=hA
    have hget:(done++vals.drop i)[i]? =some [.int .i64 u.kind,.string u.text,.int .i64 u.at_,.int .i64 u.end_,.slice B1 u.kids.length d1]:=by
     rw[aaN (by rw[hS.len];exact aaD _),hS.len,Nat.sub_self,List.getElem?_drop,Nat.add_zero];exact hv
    obtain⟨c0,c1,c2',c3,c4⟩:=J6 (hS.row.kid hS.five hget hlt) rfl;have hbw:Below B w wr:=hS.since.toBelow jc.out.1 (fun g hg=>by rw[hg];exact jc.out.2.1);obtain⟨ku,xu,au,zu,nu,hku,hxu,hau,hzu,hnu,mP⟩:=gM u B1 d1;rw[hku]at c0;rw[hxu]at c1;rw[hau]at c2';rw[hzu]at c3;rw[hnu]at c4;obtain⟨k1,hk1⟩:∃q,k0+1+ag (kids.take i)=q:=⟨_,rfl⟩
    have htk:=gU kids i u hu;have hle:=jk kids (i+1);obtain⟨kb,hkb⟩:∃q,wr.heap.size=q:=⟨_,rfl⟩
    obtain⟨W8,mY⟩:∃W,wr.alloc (.cells #[.int .i64 ku,.string xu,.int .i64 au,.int .i64 zu,.slice B1 nu d1] 24)=W:=⟨_,rfl⟩
    have dK:Below wr.heap.size wr W8:=by rw[<- mY];exact af _ _
    have QF:ai W8 kb 24 #[.int .i64 ku,.string xu,.int .i64 au,.int .i64 zu,.slice B1 nu d1]:=by rw[<- mY,<- hkb];exact ai.new _ _ _
    have Ce:=hS.box.below dK hS.box.lt;have Kz:=hS.next.below dK hS.next.lt;rw[hk1]at Kz;have hBr:B<=wr.heap.size:=aaE jc.out.1 hS.since.size;have hcall:=eH.out u (aaP hu) k1 B1 d1 W8.drew (aD.below (hS.low.trans ((dK.mono hBr).drew)) (aaD _) _ _ _ hq) (aaE hBr dK.size) (fun W hW=>HR.out W (((hS.since.below dK).drew).trans hW)) Kz.drew (by have:=Lg.out;omega);rw[mP]at hcall;have HC:=kH hcall;have mH:=kH QF;have Yh:=kH Ce;have xw:=kH dK;have HU:Hid (kids[i]? =some u/\vals[i]? =some [.int .i64 u.kind,.string u.text,.int .i64 u.at_,.int .i64 u.end_,.slice B1 u.kids.length d1]/\k1+ah u=k0+1+ag (kids.take (i+1))/\kb=wr.heap.size):=kH ⟨hu,hv,by omega,hkb.symm⟩;have Nz:=kH hk1;have hnek:kb≠nb:=by have:=jc.out;have:=hS.since.size;omega
    have hwi:IntKind.i64.wrap ((i:Int)+1)=(i:Int)+1:=IntWalk.i64_in _ (by omega);have Eb:Hid (W5.heap.size<=g/\g<wr.heap.size):=kH ⟨hLg,hgw⟩
    have nH:∀W,az (fun q=>q=nb) W8 W->W.cell? ⟨w.heap.size,4,none⟩=some (.slice (some ⟨g,off,none⟩) n c2)/\W.cell? ⟨kb,0,none⟩=some (.int .i64 ku)/\W.cell? ⟨kb,1,none⟩=some (.string xu)/\W.cell? ⟨kb,2,none⟩=some (.int .i64 au)/\W.cell? ⟨kb,3,none⟩=some (.int .i64 zu)/\W.cell? ⟨kb,4,none⟩=some (.slice B1 nu d1):=fun W hW=>by
     have h1:=Ce.since hW (fun e=>hne e.symm);have h2:=QF.since hW hnek;exact⟨h1.cell 4,h2.cell 0,h2.cell 1,h2.cell 2,h2.cell 3,h2.cell 4⟩
    have eY:=kH nH;have l8:=Ce.lt;have lk:=QF.lt;have hd1:az (fun q=>q=nb) W8 W8.drew:=(az.refl _ _).drew;have hS0:=eY.out _ hd1;clear hi hS hu hv hT hq hget hbw hku hxu hau hzu hnu mP hk1 htk hle dK QF Ce Kz hBr hcall hnek nH hLg hgw;go_wp2_with (first|rw[mY]|rw[hkb])
    clear mY hkb;refine iI (fun W=>W.cell? ⟨w.heap.size,4,none⟩=some (.slice (some ⟨g,off,none⟩) n c2)/\W.cell? ⟨kb,0,none⟩=some (.int .i64 ku)/\W.cell? ⟨kb,1,none⟩=some (.string xu)/\W.cell? ⟨kb,2,none⟩=some (.int .i64 au)/\W.cell? ⟨kb,3,none⟩=some (.int .i64 zu)/\W.cell? ⟨kb,4,none⟩=some (.slice B1 nu d1)) [9] [true,true,true,true,true,true,true,false,false,false] (by kernel_rfl) (by kernel_rfl) rfl (by kernel_rfl) ?_;iterate 7((first|(refine jJ (by rfl) hS0 ?_)|(refine iX (by rfl) hS0 (by intro w' hSw;obtain⟨hs0,hs1,hs2,hs3,hs4,hs5⟩:=hSw;go_simp;rfl) ?_));simp only[Act.put,sA,sZ,sC])
    refine qg (by rfl) (by go_simp) (HC.out.mono ?_);rintro e9 w9 ⟨A9,c9,rfl,Ky,hN9,uy⟩;have Zh:az (fun q=>q=nb) W8 w9:=hd1.trans uy;have xc:=eY.out _ Zh;obtain⟨k9,x9,a9,z9,n9,rC,yl,Xz,Pv,ER,PT⟩:=gM (dU nm (si us) u k1) A9 c9;rw[PT];have hTO:=Ky.tree;rw[rC,yl,Xz,Pv,ER]at hTO;have EP:az (fun q=>q=nb) wr w9:=((az.refl _ wr).below xw.out).trans Zh;have hSr:=HS.out;have hkp:bO (fun q=>W5.heap.size<=q) wr w9:=fun q cs hP hc=>EP.block q (aaG.1 hc).1 (fun e=>by have:=G9.out.lt;have:=jc.out;have hp:W5.heap.size<=q:=hP;omega)
    have zU:aL w9 W5.heap.size 24 5 (.slice (some ⟨g,off,none⟩) n c2) n (List.flatten (done++vals.drop i)):=hSr.row.dL (fun q hq=>(hSr.row.lt q hq).1) hkp;obtain⟨z0,z1,z2,z3,z4⟩:=J6 (zU.kid hSr.five (by rw[aaN (by rw[hSr.len];exact aaD _),hSr.len,Nat.sub_self,List.getElem?_drop,Nat.add_zero];exact HU.out.2.1) hlt) rfl;have y0:=wQ zU (off+i*5);have y1:=wQ zU (off+i*5+1);have y2:=wQ zU (off+i*5+2);have y3:=wQ zU (off+i*5+3);have y4:=wQ zU (off+i*5+4);have hg9:g<w9.heap.size:=by have:=Eb.out;have:=EP.size;omega
    obtain⟨WX,XE⟩:∃W,IC w9 g off i (.int .i64 k9) (.string x9) (.int .i64 a9) (.int .i64 z9) (.slice A9 n9 c9)=W:=⟨_,rfl⟩
    have PH:az (fun q=>q=g) w9 WX:=by rw[<- XE];exact UM
    have bD:Hid (RnS nm us nb W5.heap.size B kids vals (some ⟨g,off,none⟩) n c2 k0 w W5 #[.int .i64 k,.string xt,.int .i64 a,.int .i64 z,.slice (some ⟨g,off,none⟩) n c2] (i+1) (done++[[.int .i64 k9,.string x9,.int .i64 a9,.int .i64 z9,.slice A9 n9 c9]]) WX):=kH (by
     have hgl:=Eb.out;have hz5:=G9.out.lt;have hbb:=jc.out
     have hvd:vals.drop i=[.int .i64 u.kind,.string u.text,.int .i64 u.at_,.int .i64 u.end_,.slice B1 u.kids.length d1]::vals.drop (i+1):=by
      obtain⟨h1,h2⟩:=aaJ.1 HU.out.2.1;rw[List.drop_eq_getElem_cons h1,h2]
     have hfv:=hSr.five
     have hset:(done++vals.drop i).set i [.int .i64 k9,.string x9,.int .i64 a9,.int .i64 z9,.slice A9 n9 c9]=(done++[[.int .i64 k9,.string x9,.int .i64 a9,.int .i64 z9,.slice A9 n9 c9]])++vals.drop (i+1):=by
      rw[List.set_append_right _ _ (by rw[hSr.len];exact aaD _),hSr.len,Nat.sub_self,hvd,sZ,List.append_assoc];rfl
     have hrow:=zU.IC i hlt (.int .i64 k9) (.string x9) (.int .i64 a9) (.int .i64 z9) (.slice A9 n9 c9);rw[XE,O8 hfv (by rw[aaO,hSr.len,hvd];simp) ,hset]at hrow;have hkx:bO (fun q=>W5.heap.size<=q/\some q≠(Value.slice (some (⟨g,off,none⟩:Addr)) n c2).ownBlock) w9 WX:=fun q cs hP hc=>PH.block q (aaG.1 hc).1 (fun e=>hP.2 (by rw[e];rfl))
     refine⟨?_,?_,?_,hrow,?_,?_,?_,?_,?_⟩
     ·exact(hSr.box.since EP (fun e=>hne e.symm)).since PH (by omega)
     ·exact(hSr.zero.since EP (by omega)).since PH (by omega)
     ·have:=hN9.since PH (by omega)
      rw[HU.out.2.2.1]at this;exact this
     ·rw[YL HU.out.1,OM]
      refine bM.snoc ?_ ?_
      ·exact bM.keeps hkx _ _ (bM.keeps (fun q cs hP hc=>hkp q cs hP.1 hc) _ _ hSr.own)
      ·have e1:k0+1+ag (kids.take i)=k1:=Nz.out
       rw[e1];refine aB.keeps hkx _ _ (aB.weak (fun q _ hq=>?_) _ _ hTO);have hq':W8.heap.size<=q:=hq;have:=xw.out.size;refine⟨by omega,fun e=>?_⟩;have:q=g:=by simpa [Value.ownBlock] using e
       omega
     ·rw[aaO,hSr.len]
      rfl
     ·rw[<- hset]
      intro v hv;rcases List.mem_or_eq_of_mem_set hv with h|h
      ·exact hfv v h
      ·rw[h];rfl
     ·exact(hSr.since.trans EP).step PH (fun q hq=>.inr (by have:=HS5.out.size;omega))
     ·exact(hSr.low.trans (EP.toBelow (aaE jc.out.1 hSr.since.size) (fun q hq=>by omega))).trans (PH.toBelow (by have:=EP.size;have:=hSr.since.size;omega) (fun q hq=>by have:=iQ.out;omega)))
    refine⟨_,rfl,fun _=>xc,?_⟩;simp only[Act.put,sA,sZ,sC];refine YF (w':=w9) (by rfl) (by go_simp;rfl) (fun _=>xc) ?_;simp only[Act.put,sA,sZ,sC];refine Wm (w':=IC w9 g off i (.int .i64 k9) (.string x9) (.int .i64 a9) (.int .i64 z9) (.slice A9 n9 c9)) (by rfl) (by go_simp;exact XE) (by simp) ?_;refine mQ ?_;simp only[Act.put];rw[XE];clear XE PH hg9 y0 y1 y2 y3 y4 z0 z1 z2 z3 z4 zU hkp hSr EP hTO rC yl Xz Pv ER PT Zh xc hS0 hd1 Ky hN9 uy l8 lk c0 c1 c2' c3 c4 b4 lb;go_wp2_with fail
    go_roundg (gk - 1)
    case measure=>have:=HI.out;omega
    case rel=>exact⟨i+1,_,by have:=HI.out;omega,by simp,bD⟩
   ·have hie:i=n:=by omega
    subst hie;obtain⟨⟨v0,v1,v2,v3,v4⟩,f0,f1,f2,f3,f4⟩:=hS.zero.five;obtain⟨⟨m0,m1,m2,m3,m4⟩,-⟩:=hS.box.five;have lz:=hS.zero.lt;obtain⟨Z,hZ⟩:∃Z,bZ wr (w.heap.size+1) (.int .i64 k) (.string xt) (.int .i64 a) (.int .i64 z) (.slice A2 i c2)=Z:=⟨_,rfl⟩
    have uL:az (fun q=>q=w.heap.size+1) wr Z:=by rw[<- hZ];exact qj
    have XG:ai Z (w.heap.size+1) 24 #[.int .i64 k,.string xt,.int .i64 a,.int .i64 z,.slice A2 i c2]:=by rw[<- hZ];exact ai.BZ hS.zero _ _ _ _ _
    have aV:Hid (RnL nm us nb (.node k x a z kids) k0 w (.returned (.agg #[.int .i64 k,.string xt,.int .i64 a,.int .i64 z,.slice A2 i c2])) Z):=kH (by
     have hz5:=G9.out.lt;have hbb:=jc.out;have htake:kids.take i=kids:=by rw[<- HN.out,List.take_length]
     have hlen:=HV.out.U2.1;have hvd:vals.drop i=[]:=List.drop_of_length_le (by rw[hlen,HN.out];exact aaD _);have hrow:=hS.row;rw[hvd,List.append_nil]at hrow;have hown:=hS.own;rw[htake]at hown;have hkl:(dD nm (si us) kids (k0+1)).length=i:=by rw[sD,HN.out]
     have hrt:dU nm (si us) (.node k x a z kids) k0= .node k xt a z (dD nm (si us) kids (k0+1)):=by rw[dU,xh.out,Tu.out]
     refine⟨A2,c2,?_,?_,?_,?_⟩
     ·rw[hrt]
      show _=Ending.returned (.agg #[_,_,_,_,.slice A2 (dD nm (si us) kids (k0+1)).length c2]);rw[hkl];rfl
     ·rw[hrt]
      show bL Z w.heap.size (.slice A2 (dD nm (si us) kids (k0+1)).length c2) (dD nm (si us) kids (k0+1)).length (dD nm (si us) kids (k0+1));rw[hkl];refine⟨done,(hrow.since uL (fun q hq e=>by have:=(hrow.lt q hq).1;omega)).mono (by omega),?_,hkl⟩;refine bM.keeps (fun q cs hP hc=>uL.block q (aaG.1 hc).1 (fun e=>?_)) _ _ (bM.weak (Q:=fun q=>W5.heap.size<=q/\some q≠(Value.slice A2 i c2).ownBlock) (fun _ _ h=>h) _ _ hown) |> bM.weak (fun q _ hq=>⟨by have:=hq.1;omega,hq.2⟩) _ _
      have:=hP.1;omega
     ·have:=hS.next.since uL (by omega)
      rw[htake,show k0+1+ag kids=k0+ah (.node k x a z kids) by rw[ah];omega]at this;exact this
     ·exact hS.since.step uL (fun q hq=>.inr (by omega)))
    obtain⟨⟨q0,q1,q2,q3,q4⟩,-⟩:=XG.five;unfold bZ at hZ;clear hS uL XG hi b4 lb;go_wp2_with (rw[hZ])
    try simp only[Exit.inBlock,Exit.then]
    refine bodyPost_ret (v:=.agg #[.int .i64 k,.string xt,.int .i64 a,.int .i64 z,.slice A2 i c2]) (by simp[results,Tryz.results54,go_sem,q0,q1,q2,q3,q4]) rfl ?_;exact aV.out
theorem Gq(B nb:Nat)(hnb:B<=nb)(nm:ByteArray)(us:List Int)(uA:Option Addr)(un uc:Nat)(yP:us.length=un)(hun:un<=1000000):∀(m:Nat) (t:aa),ah t<=m->RnC B nb nm us uA un uc t
 | 0,t,h=>by
  have:=oL t;omega
 | m+1,.node k x a z kids,h=>OT B nb hnb nm us uA un uc yP hun k x a z kids fun u hu=>Gq B nb hnb nm us uA un uc yP hun m u (by
  have:=zh hu;rw[ah]at h
  omega)
end Go.Proofs.YtoepemlnlpamlaaGreat
