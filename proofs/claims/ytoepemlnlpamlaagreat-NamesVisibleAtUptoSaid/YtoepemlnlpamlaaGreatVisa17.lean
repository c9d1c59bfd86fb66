/- The law NamesVisibleAt holds where what it reads is of bulk at most 1048576: it returns true, and its arguments read as before. Part 17: Shp2 TreeAt Tr3 Tr4. -/
import Derived.Test.YtoepemlnlpamlaaGreatVisa01
import Derived.Test.YtoepemlnlpamlaaGreatVisa04
import Derived.Test.YtoepemlnlpamlaaGreatVisa16
set_option maxRecDepth 100000
set_option maxHeartbeats 4000000
namespace Go.Proofs.YtoepemlnlpamlaaGreat
open Go.RowKit
theorem U2(A:Option Addr)(n c:Nat)(l:List Int)(w:World)(G:bU 1 gN w w.heap.size A l)(F:l.length=n)(L:n<=1000000):
 Calls Tryz.prog 189 #[.slice A n c] w fun e w'=> ∃v,e= .returned v/\jE w' v (fun k=>l.any fun y=>decide (k=y))/\Below w.heap.size w w':=by
 have I:=kH G;have J:=kH F;clear G F;go_in
 go_wp2_with fail
 refine bodyPost_ret (v:=.func (Fn.func 233) #[] #[.pointer (some ⟨w.heap.size,0,none⟩)]) (by simp[results,Tryz.results189,go_sem]) rfl ?_;refine⟨_,rfl,⟨_,_,rfl,fun args w=>by go_simp,fun k w' E D=>?_⟩,ag _ _⟩;have C:=aj.new w 28 #[.slice A n c];have B:aj w' w.heap.size 28 #[.slice A n c]:=E.blk C;have M:w'.cell? ⟨w.heap.size,0,none⟩=some (.slice A n c):=B.cell 0;have H:bU 1 gN w' w'.heap.size A l:=((I.out.below (ag w _) (aab _)).kc E).mono (by simp at D;omega);have K:=kH H;have F:=B.lt;clear C B H E D;show Calls Tryz.prog 233 #[.int .i64 k,.pointer (some ⟨w.heap.size,0,none⟩)] w' _;go_in
 go_wp2_with fail
 refine(Qb A n c l k w' K.out J.out L).mono ?_;rintro e N ⟨rfl,rfl⟩;go_wp2_with fail
 go_ret
 exact⟨rfl,Below.refl _ _⟩
theorem Qt(A:Option Addr)(n c:Nat)(l:List ByteArray)(w:World)(G:bU 1 bN w w.heap.size A l)(F:l.length=n)(L:n<=1000000):
 Calls Tryz.prog 193 #[.slice A n c] w fun e w'=> ∃v,e= .returned v/\pg w' v (fun s=>kJ l s)/\Below w.heap.size w w':=by
 have I:=kH G;have J:=kH F;clear G F;go_in
 go_wp2_with fail
 refine bodyPost_ret (v:=.func (Fn.func 235) #[] #[.pointer (some ⟨w.heap.size,0,none⟩)]) (by simp[results,Tryz.results193,go_sem]) rfl ?_;refine⟨_,rfl,⟨_,_,rfl,fun args w=>by go_simp,fun k w' E D=>?_⟩,ag _ _⟩;have C:=aj.new w 41 #[.slice A n c];have B:aj w' w.heap.size 41 #[.slice A n c]:=E.blk C;have M:w'.cell? ⟨w.heap.size,0,none⟩=some (.slice A n c):=B.cell 0;have H:bU 1 bN w' w'.heap.size A l:=((I.out.below (ag w _) (aab _)).kc E).mono (by simp at D;omega);have K:=kH H;have F:=B.lt;clear C B H E D;show Calls Tryz.prog 235 #[.string k,.pointer (some ⟨w.heap.size,0,none⟩)] w' _;go_in
 go_wp2_with fail
 refine(FL A n c l k w' K.out J.out L).mono ?_;rintro e N ⟨rfl,rfl⟩;go_wp2_with fail
 go_ret
 exact⟨rfl,Below.refl _ _⟩
theorem Fx(v:Value)(p:Int->Bool)(w:World)(R:jE w v p):
 Calls Tryz.prog 191 #[v] w fun e w'=> ∃Q,e= .returned Q/\jE w' Q (fun k=>decide (k=0) || p k)/\Below w.heap.size w w':=by
 obtain⟨L,D,rfl,A,B⟩:=R;have F:=kH A;have S:=kH B;clear A B;go_in
 go_wp2_with fail
 refine bodyPost_ret (v:=.func (Fn.func 234) #[] #[.pointer (some ⟨w.heap.size,0,none⟩)]) (by simp[results,Tryz.results191,go_sem]) rfl ?_;refine⟨_,rfl,⟨_,_,rfl,fun args w=>by go_simp,fun k w' M J=>?_⟩,ag _ _⟩;have G:=aj.new w 54 #[.func (Fn.func L) #[] D];have E:aj w' w.heap.size 54 #[.func (Fn.func L) #[] D]:=M.blk G;have T:w'.cell? ⟨w.heap.size,0,none⟩=some (.func (Fn.func L) #[] D):=E.cell 0;have C:KC w w':=(KC.of_below (ag w _)).trans M;have H:=S.out k w' C (by simp at J;omega);have K:=kH H;have A:=F.out;unfold Ue at A;have U:=E.lt;clear G E M C H J;show Calls Tryz.prog 234 #[.int .i64 k,.pointer (some ⟨w.heap.size,0,none⟩)] w' fun e O=>e= .returned (.bool (decide (k=0) || p k))/\Below w'.heap.size w' O
 by_cases I:k=0
 ·have N:(k==0)=true:=by simp[I]
  subst I;go_in
  go_wp2_with fail
  go_ret
  exact⟨rfl,Below.refl _ _⟩
 ·have N:(k==0)=false:=by simp[I]
  have P:decide (k=0)=false:=decide_eq_false I;rw[P];clear I P;go_in
  go_wp2_with fail
  refine K.out.mono ?_;rintro e V ⟨rfl,C⟩;go_wp2_with fail
  go_ret
  exact⟨bH (by simp),C⟩
def dC(k:Int):Bool:=decide (k=9) || decide (k=10)
def ll(k:Int):Bool:=decide (12<=k)&&decide (k<=19)
def aQ(k:Int):Bool:=decide (20<=k)&&decide (k<=29)
def jv(k:Int):Bool:=decide (k=20) || decide (k=21) || decide (k=22)
theorem ZA(w:World):jE w (.func (Fn.func 192) #[] #[]) dC:=by
 refine⟨_,_,rfl,fun args w=>by go_simp,fun k w' _ _=>?_⟩;show Calls Tryz.prog 192 #[.int .i64 k] w' fun e A=>e= .returned (.bool (dC k))/\Below w'.heap.size w' A
 go_in
 go_wp2_with fail
 all_goals go_ret
 all_goals exact⟨bH (by unfold dC;rw[Bool.eq_iff_iff];simp<;>omega),Below.refl _ _⟩
theorem ZB(w:World):jE w (.func (Fn.func 197) #[] #[]) ll:=by
 refine⟨_,_,rfl,fun args w=>by go_simp,fun k w' _ _=>?_⟩;show Calls Tryz.prog 197 #[.int .i64 k] w' fun e A=>e= .returned (.bool (ll k))/\Below w'.heap.size w' A
 go_in
 go_wp2_with fail
 all_goals go_ret
 all_goals exact⟨bH (by unfold ll;rw[Bool.eq_iff_iff];simp<;>omega),Below.refl _ _⟩
theorem ZC(w:World):jE w (.func (Fn.func 190) #[] #[]) aQ:=by
 refine⟨_,_,rfl,fun args w=>by go_simp,fun k w' _ _=>?_⟩;show Calls Tryz.prog 190 #[.int .i64 k] w' fun e A=>e= .returned (.bool (aQ k))/\Below w'.heap.size w' A
 go_in
 go_wp2_with fail
 all_goals go_ret
 all_goals exact⟨bH (by unfold aQ;rw[Bool.eq_iff_iff];simp<;>omega),Below.refl _ _⟩
theorem XD(w:World):jE w (.func (Fn.func 198) #[] #[]) jv:=by
 refine⟨_,_,rfl,fun args w=>by go_simp,fun k w' _ _=>?_⟩;show Calls Tryz.prog 198 #[.int .i64 k] w' fun e A=>e= .returned (.bool (jv k))/\Below w'.heap.size w' A
 go_in
 go_wp2_with fail
 all_goals go_ret
 all_goals exact⟨bH (by unfold jv;rw[Bool.eq_iff_iff];simp<;>omega),Below.refl _ _⟩
theorem empty_fn(w:World):pg w (.func (Fn.func 194) #[] #[]) (fun s=>decide (s.size=0)):=by
 refine⟨_,_,rfl,fun args w=>by go_simp,fun s w' _ _=>?_⟩;show Calls Tryz.prog 194 #[.string s] w' fun e A=>e= .returned (.bool (decide (s.size=0)))/\Below w'.heap.size w' A
 have B:=BD s;go_in
 go_wp2_with fail
 go_ret
 exact⟨bH (by first|rfl|simp),Below.refl _ _⟩
theorem U6(w:World):pg w (.func (Fn.func 53) #[] #[]) (fun s=>rE s.data.toList):=
 ⟨_,_,rfl,fun args w=>by go_simp,fun s w' _ _=>Zr s w'⟩
def jk(s:ByteArray):Bool:=(fV s.data.toList).isSome&&(decide (s=⟨#[48]⟩) || decide (bz s.data.toList 0≠48))
theorem Zm(w:World):pg w (.func (Fn.func 196) #[] #[]) jk:=by
 refine⟨_,_,rfl,fun args w=>by go_simp,fun s w' _ _=>?_⟩;show Calls Tryz.prog 196 #[.string s] w' fun e K=>e= .returned (.bool (jk s))/\Below w'.heap.size w' K
 have J:=Uv s w';obtain⟨M,B⟩:∃b,(fV s.data.toList).isSome=b:=⟨_,rfl⟩
 rw[B]at J
 have H:M=true->0<s.size:=by
  intro h;rw[h]at B;unfold fV at B;split at B
  ·cases B
  ·rename_i h2
   rw[bQ]at h2;omega
 have I:=kH J;have D:=kH B;have O:=kH H;clear J B H;cases M
 ·have C:jk s=false:=by unfold jk;rw[D.out];rfl
  rw[C];clear C;go_in
  go_wp2_with fail
  refine I.out.mono ?_;rintro e N ⟨n,rfl,E⟩;go_wp2_with fail
  go_ret
  exact⟨rfl,E⟩
 ·have H:=O.out rfl
  have P:(0:Int)<(s.size:Int):=by omega
  by_cases A:s=⟨#[48]⟩
  ·have C:jk s=true:=by unfold jk;rw[D.out,decide_eq_true A];rfl
   rw[C];have G:(s.toList==[48])=true:=by rw[A,ByteArray.toList_eq];rfl
   have L:(s.data.toList==[48])=true:=by rw[A];rfl
   clear C A;go_in
   go_wp2_with fail
   refine I.out.mono ?_;rintro e N ⟨n,rfl,E⟩;go_wp2_with fail
   go_ret
   exact⟨rfl,E⟩
  ·have L:(s.data.toList==[48])=false:=by
    rw[Bool.eq_false_iff];intro h;apply A
    obtain⟨⟨l⟩⟩:=s;simp at h;rw[h]
   have G:(s.toList==[48])=false:=by rw[ByteArray.toList_eq];exact L
   have C:jk s=decide (bz s.data.toList 0≠48):=by unfold jk;rw[D.out,decide_eq_false A];simp
   rw[C];have F:=nP s 0 H;rw[<- F];clear C A F;go_in
   go_wp2_with fail
   refine I.out.mono ?_;rintro e N ⟨n,rfl,E⟩;go_wp2_with fail
   go_ret
   exact⟨bH (by rw[Bool.eq_iff_iff];simp;omega),E⟩
theorem either_fn(w:World)(O J:Nat)(Y Z:Value)(p1 P:ByteArray->Bool)(v:pg w Y p1)(u:pg w Z P)(A:aj w O 99 #[Y])(B:aj w J 99 #[Z]):
 pg w (.func (Fn.func 195) #[] #[.pointer (some ⟨O,0,none⟩),.pointer (some ⟨J,0,none⟩)]) (fun s=>p1 s || P s):=by
 obtain⟨Q,y,rfl,R,M⟩:=v;obtain⟨K,E,rfl,S,N⟩:=u;refine⟨_,_,rfl,fun args w=>by go_simp,fun s w' L H=>?_⟩;show Calls Tryz.prog 195 #[.string s,.pointer (some ⟨O,0,none⟩),.pointer (some ⟨J,0,none⟩)] w' fun e D=>e= .returned (.bool (p1 s || P s))/\Below w'.heap.size w' D
 have I:=L.blk A;have C:=L.blk B;have r:=I.lt;have T:=C.lt;have q:w'.cell? ⟨O,0,none⟩=some (.func (Fn.func Q) #[] y):=I.cell 0;have U:w'.cell? ⟨J,0,none⟩=some (.func (Fn.func K) #[] E):=C.cell 0;have V:=kH (M s w' L H);have W:=kH (fun D (h:Below w'.heap.size w' D)=>N s D (L.trans (KC.of_below h)) (aac H h.size));have t:=kH C;unfold Ue at R S;obtain⟨x,F⟩:∃b,p1 s=b:=⟨_,rfl⟩
 obtain⟨n,G⟩:∃b,P s=b:=⟨_,rfl⟩
 rw[F,G];rw[F]at V;rw[G]at W;clear L M N A B I C F G H;go_in
 go_wp2_with fail
 refine V.out.mono ?_;rintro e z ⟨rfl,A⟩;cases x
 ·have X:z.cell? ⟨J,0,none⟩=some (.func (Fn.func K) #[] E):=(A.cell (p:=⟨J,0,none⟩) T).trans U
  go_wp2_with fail
  refine(W.out z A).mono ?_;rintro e m ⟨rfl,B⟩;go_wp2_with fail
  go_ret
  exact⟨bH (by simp),A.trans (B.mono A.size)⟩
 ·go_wp2_with fail
  go_ret
  exact⟨bH (by simp),A⟩
mutual
def ky(w:World)(B:Nat):ae->List Value->Prop
 | .node k t a e kids,cs=> ∃A c,cs=[.int .i64 k,.string t,.int .i64 a,.int .i64 e,.slice A kids.length c]/\kids.length<=c/\aJ w B A 0 kids
def aJ(w:World)(B:Nat)(A:Option Addr):Nat->List ae->Prop
 | _,[]=>True
 | i,t::ts=>(∃b off vals,A=some ⟨b,off,none⟩/\b<B/\(∀j v,vals[j]? =some v->w.cell? ⟨b,off+i*5+j,none⟩=some v)/\ky w B t vals)/\aJ w B A (i+1) ts
end
mutual
theorem ky.below{w w':World}{B C:Nat}(H:Below C w w')(G:B<=C):∀(t:ae) (D:List Value),ky w B t D->ky w' B t D
 | .node _ _ _ _ kids,_,h=>by
  obtain⟨A,c,E,I,F⟩:=h;exact⟨A,c,E,I,aJ.below H G kids A 0 F⟩
theorem aJ.below{w w':World}{B C:Nat}(D:Below C w w')(F:B<=C):∀(ts:List ae) (A:Option Addr) (i:Nat),aJ w B A i ts->aJ w' B A i ts
 | [],_,_,_=>trivial
 | t::ts,A,i,h=>by
  obtain⟨⟨b,E,vals,G,H,I,J⟩,K⟩:=h;exact⟨⟨b,E,vals,G,H,fun j v L=>(D.cell (p:=⟨b,_,none⟩) (by show b<C;omega)).trans (I j v L),ky.below D F t vals J⟩,aJ.below D F ts A (i+1) K⟩
end
mutual
theorem ky.mono{w:World}{B C:Nat}(G:B<=C):∀(t:ae) (D:List Value),ky w B t D->ky w C t D
 | .node _ _ _ _ kids,_,h=>by
  obtain⟨A,c,E,H,F⟩:=h;exact⟨A,c,E,H,aJ.mono G kids A 0 F⟩
theorem aJ.mono{w:World}{B E:Nat}(C:B<=E):∀(ts:List ae) (A:Option Addr) (i:Nat),aJ w B A i ts->aJ w E A i ts
 | [],_,_,_=>trivial
 | t::ts,A,i,h=>by
  obtain⟨⟨b,D,vals,F,G,H,I⟩,J⟩:=h;exact⟨⟨b,D,vals,F,Nat.lt_of_lt_of_le G C,H,ky.mono C t vals I⟩,aJ.mono C ts A (i+1) J⟩
end
theorem Dt:∀(vals:List (List Value)),(∀v∈vals,v.length=5)->∀(i j:Nat) (v:List Value) (x:Value),vals[i]? =some v->v[j]? =some x->(List.flatten vals)[i*5+j]? =some x
 | [],_,i,j,v,x,h,_=>by simp at h
 | u::vals,hl,0,j,v,x,h,hx=>by
  simp at h;subst h;have B:=(aah.1 hx).1;simp only[List.flatten_cons,Nat.zero_mul,Nat.zero_add];rw[List.getElem?_append_left B];exact hx
 | u::vals,hl,i+1,j,v,x,h,hx=>by
  have A:=hl u (by simp);have:=Dt vals (fun v C=>hl v (by simp[C])) i j v x (by simpa using h) hx;simp only[List.flatten_cons];rw[aal (by rw[A,Nat.add_mul];omega),A];rw[show(i+1)*5+j - 5=i*5+j by rw[Nat.add_mul];omega];exact this
theorem bW.Ms{w:World}{P:Nat->Prop}:∀{ts:List ae}{vals:List (List Value)},bW w P ts vals->∀v∈vals,v.length=5
 | [],vals,h,v,A=>by
  have:vals=[]:=h;subst this
  cases A
 | t::ts,vals,h,v,A=>by
  obtain⟨D,E,rfl,B,C⟩:=h;rcases List.mem_cons.1 A with rfl|A
  ·exact aC.len B
  ·exact bW.Ms C v A
def Wm(w:World)(B:Nat)(A:Option Addr)(i:Nat)(vals:List Value):Prop:=∃b off,A=some ⟨b,off,none⟩/\b<B/\∀j v,vals[j]? =some v->w.cell? ⟨b,off+i*5+j,none⟩=some v
mutual
theorem aC.at_{w:World}{P:Nat->Prop}:∀(t:ae) (F:List Value),aC w P t F->ky w w.heap.size t F
 | .node _ _ _ _ kids,_,h=>by
  obtain⟨A,c,vals,J,G,R,B⟩:=h;refine⟨A,c,J,(by obtain⟨O,Q,K,L,_⟩:=G.shape;cases K;exact L),bW.at_ kids vals A 0 B (fun j v H=>?_)⟩;have T:=bW.lens B;have S:=(aah.1 H).1;obtain⟨g,E,I,D,_,_,_,C,M⟩:=G.form (by omega);cases D
  refine⟨g,E,rfl,C,fun q x N=>?_⟩;rw[Nat.zero_add,Nat.add_assoc];exact M _ _ (Dt vals (bW.Ms B) j q v x H N)
theorem bW.at_{w:World}{P:Nat->Prop}:∀(ts:List ae) (vals:List (List Value)) (A:Option Addr) (i:Nat),bW w P ts vals->(∀j v,vals[j]? =some v->Wm w w.heap.size A (i+j) v)->aJ w w.heap.size A i ts
 | [],_,_,_,_,_=>trivial
 | t::ts,vals,A,i,h,hc=>by
  obtain⟨C,J,rfl,G,H⟩:=h;obtain⟨b,B,D,E,F⟩:=hc 0 C rfl;refine⟨⟨b,B,C,D,E,F,aC.at_ t C G⟩,bW.at_ ts J A (i+1) H (fun j v I=>?_)⟩;have:=hc (j+1) v (by simpa using I);rw[show i+1+j=i+(j+1) by omega];exact this
end
theorem aJ.get{w:World}{B:Nat}{A:Option Addr}:∀{ts:List ae}{i:Nat},aJ w B A i ts->∀(j:Nat) (t:ae),ts[j]? =some t->∃vals,Wm w B A (i+j) vals/\ky w B t vals
 | [],_,_,j,t,ht=>by simp at ht
 | u::ts,i,h,0,t,ht=>by
  simp at ht;subst ht;obtain⟨⟨b,E,vals,C,D,F,G⟩,-⟩:=h;exact⟨vals,⟨b,E,C,D,F⟩,G⟩
 | u::ts,i,h,j+1,t,ht=>by
  obtain⟨vals,C,D⟩:=aJ.get h.2 j t (by simpa using ht);exact⟨vals,by rw[show i+(j+1)=i+1+j by omega];exact C,D⟩
theorem ky.five{w:World}{B:Nat}{t:ae}{C:List Value}(h:ky w B t C):∃A c,C=[.int .i64 t.kind,.string t.text,.int .i64 t.at_,.int .i64 t.end_,.slice A t.kids.length c]/\aJ w B A 0 t.kids:=by
 cases t
 obtain⟨A,c,D,_,E⟩:=h;exact⟨A,c,D,E⟩
theorem ky.cap{w:World}{B:Nat}{t:ae}{k:Int}{x:ByteArray}{a z:Int}{A:Option Addr}{n c:Nat}(h:ky w B t [.int .i64 k,.string x,.int .i64 a,.int .i64 z,.slice A n c]):t.kids.length<=c:=by
 cases t
 obtain⟨E,F,C,D,_⟩:=h;simp only[List.cons.injEq,Value.slice.injEq,and_true]at C;obtain⟨_,_,_,_,_,_,rfl⟩:=C;exact D
theorem gD:∀(ts:List ae) (i:Nat) (t:ae),ts[i]? =some t->aD (ts.take (i+1))=aD (ts.take i)+ai t
 | [],i,t,h=>by simp at h
 | u::ts,0,t,h=>by
  simp at h;subst h;simp[aD]
 | u::ts,i+1,t,h=>by
  have:=gD ts i t (by simpa using h);simp only[List.take_succ_cons,aD];omega
theorem iZ:∀(ts:List ae) (i:Nat),aD (ts.take i)<=aD ts
 | [],i=>by simp[aD]
 | u::ts,0=>by simp[aD]
 | u::ts,i+1=>by
  have:=iZ ts i;simp only[List.take_succ_cons,aD];omega
theorem pO(t:ae):ai t=1+aD t.kids:=by
 cases t
 rfl
theorem tT(t:ae):1<=ai t:=by
 rw[pO];omega
theorem jO:∀(ts:List ae),ts.length<=aD ts
 | []=>by simp[aD]
 | t::ts=>by
  have:=jO ts;have:=tT t;simp only[aao,aD];omega
def aZ(t:ae)(A:Option Addr)(c:Nat):Value:=.agg #[.int .i64 t.kind,.string t.text,.int .i64 t.at_,.int .i64 t.end_,.slice A t.kids.length c]
theorem AQ:∀(m:Nat) (t:ae) (A:Option Addr) (c:Nat) (w:World),ai t<=m->m<=1000000000000->aJ w w.heap.size A 0 t.kids ->
 Calls Tryz.prog 39 #[aZ t A c] w fun e w'=>e= .returned (.int .i64 (ai t:Int))/\Below w.heap.size w w':=by
 intro m
 induction m with
 | zero=>
  intro t A c w h;have:=tT t;omega
 | succ m ih=>
  intro t A c w hm T hk;have N:=pO t;obtain⟨C,nY⟩:∃x,t.kids=x:=⟨_,rfl⟩
  obtain⟨n,hn⟩:∃x,C.length=x:=⟨_,rfl⟩
  unfold aZ;rw[nY]at hk N⊢;rw[hn];obtain⟨k,U⟩:∃x,t.kind=x:=⟨_,rfl⟩
  obtain⟨x,Y⟩:∃x,t.text=x:=⟨_,rfl⟩
  obtain⟨a,S⟩:∃x,t.at_=x:=⟨_,rfl⟩
  obtain⟨z,Z⟩:∃x,t.end_=x:=⟨_,rfl⟩
  rw[U,Y,S,Z];have O:=jO C;have HK:=kH hk;have HN:=kH hn;have r:=kH N;have fE:=kH ih;have y:Hid (aD C<=m/\m<=1000000000000):=kH ⟨by omega,by omega⟩;have hnb:n<=1000000000000:=by omega
  clear hk N ih hm T U Y S Z nY hn O;go_in
  go_wp2_with fail
  generalize L:w.alloc (.cells #[.int .i64 k,.string x,.int .i64 a,.int .i64 z,.slice A n c] 24)=W1
  have M:Below w.heap.size w W1:=by rw[<- L];exact ag _ _
  have iE:aj W1 w.heap.size 24 #[.int .i64 k,.string x,.int .i64 a,.int .i64 z,.slice A n c]:=by rw[<- L];exact aj.new w _ _
  have g:=kH iE;have P:=kH M;have hl1:=iE.lt;have j:=kH (aJ.below M (aab _) _ _ _ HK.out);clear L M iE;go_loopg [3,4] n (fun gk s3 s4 wr=> ∃i:Nat,i+gk=n/\s3= .int .i64 ((1+aD (C.take i):Nat):Int)/\s4= .int .i64 (i:Int)/\Below W1.heap.size W1 wr)
  case atStart=>exact⟨0,by omega,by simp[aD],rfl,Below.refl _ _⟩
  case round=>
   obtain⟨i,hi,rfl,rfl,f⟩:=hrel;have K:=g.out.below f hl1;have hc4:wr.cell? ⟨w.heap.size,4,none⟩=some (.slice A n c):=K.cell 4;have hlr:=K.lt;have I:=kH f;have HI:=kH hi;have hin:i<=n:=by omega
   have O:=iZ C i;have hcb:aD (C.take i)<=1000000000000:=by have:=y.out;omega
   clear f K hi O;by_cases hlt:i<n
   ·have hlt':(i:Int)<(n:Int):=by omega
    obtain⟨u,hu⟩:∃u,C[i]? =some u:=⟨_,aaf (by rw[HN.out];exact hlt)⟩
    obtain⟨vals,⟨b,H,hA,hbl,E⟩,hT⟩:=j.out.get i u hu;obtain⟨A',c',jF,R⟩:=hT.five;subst hA;subst jF;have hbb:b<wr.heap.size:=by omega
    have F:b<W1.heap.size:=by omega
    have t0:wr.cell? ⟨b,H+i*5,none⟩=some (.int .i64 u.kind):=(I.out.cell (p:=⟨b,_,none⟩) F).trans (by simpa using E 0 _ rfl);have t1:wr.cell? ⟨b,H+i*5+1,none⟩=some (.string u.text):=(I.out.cell (p:=⟨b,_,none⟩) F).trans (by simpa using E 1 _ rfl);have t2:wr.cell? ⟨b,H+i*5+2,none⟩=some (.int .i64 u.at_):=(I.out.cell (p:=⟨b,_,none⟩) F).trans (by simpa using E 2 _ rfl);have t3:wr.cell? ⟨b,H+i*5+3,none⟩=some (.int .i64 u.end_):=(I.out.cell (p:=⟨b,_,none⟩) F).trans (by simpa using E 3 _ rfl);have t4:wr.cell? ⟨b,H+i*5+4,none⟩=some (.slice A' u.kids.length c'):=(I.out.cell (p:=⟨b,_,none⟩) F).trans (by simpa using E 4 _ rfl);have V:=gD C i u hu;have hle:=iZ C (i+1);have D:=fE.out u A' c' wr (by have:=y.out;omega) y.out.2 (aJ.mono (B:=w.heap.size) (by omega) _ _ _ (aJ.below I.out (by omega) _ _ _ R));unfold aZ at D;have v:=kH D;have zG:=kH V;have hub:ai u<=1000000000000:=by have:=y.out;omega
    have hwr:IntKind.i64.wrap ((i:Int)+1)=(i:Int)+1:=IntWalk.i64_in _ (by omega);have X:IntKind.i64.wrap (((1+aD (C.take i):Nat):Int)+(ai u:Int))=((1+aD (C.take i):Nat):Int)+(ai u:Int):=IntWalk.i64_in _ (by omega);obtain⟨un,W⟩:∃q,u.kids.length=q:=⟨_,rfl⟩
    rw[W]at t4 v;obtain⟨cs1,G⟩:∃q,1+aD (C.take i)=q:=⟨_,rfl⟩
    rw[G]at X⊢;have Q:=kH G;obtain⟨cu,mi⟩:∃q,ai u=q:=⟨_,rfl⟩
    rw[mi]at X v;have l:=kH mi;clear E hT R V hle D hu W G mi hcb hub;go_wp2_with fail
    refine v.out.mono ?_;rintro e w2 ⟨rfl,d⟩;go_wp2_with fail
    go_roundg (gk - 1)
    case measure=>have:=HI.out;omega
    case rel=>exact⟨i+1,by have:=HI.out;omega,by rw[zG.out,<- Q.out,<- l.out];simp;omega,by simp,I.out.trans (d.mono I.out.size)⟩
   ·have hie:i=n:=by omega
    have J:1+aD (C.take i)=ai t:=by rw[r.out,hie,<- HN.out,List.take_length]
    rw[J];clear J;go_wp2_with fail
    go_ret
    exact⟨rfl,P.out.trans (I.out.mono P.out.size)⟩
mutual
def bT:ae->List ae
 | .node k t a e kids=>.node k t a e kids::dz kids
def dz:List ae->List ae
 | []=>[]
 | t::ts=>bT t++dz ts
end
mutual
theorem iY:∀(t:ae),(bT t).length=ai t
 | .node _ _ _ _ kids=>by
  simp only[bT,ai,aao,Aq kids];omega
theorem Aq:∀(ts:List ae),(dz ts).length=aD ts
 | []=>rfl
 | t::ts=>by simp only[dz,aD,aam,iY t,Aq ts]
end
theorem wQ(t:ae):bT t=t::dz t.kids:=by
 cases t
 rfl
theorem Df:∀(ts:List ae) (i:Nat) (t:ae),ts[i]? =some t->dz (ts.take (i+1))=dz (ts.take i)++bT t
 | [],i,t,h=>by simp at h
 | u::ts,0,t,h=>by
  simp at h;subst h;simp[dz]
 | u::ts,i+1,t,h=>by
  have:=Df ts i t (by simpa using h);simp only[List.take_succ_cons,dz,this,List.append_assoc]
def iP(w:World)(B:Nat):List ae->List (List Value)->Prop
 | [],vals=>vals=[]
 | t::ts,vals=> ∃v vs,vals=v::vs/\ky w B t v/\iP w B ts vs
theorem iP.append{w:World}{B:Nat}:∀{ts D:List ae}{A C:List (List Value)},iP w B ts A->iP w B D C->iP w B (ts++D) (A++C)
 | [],D,A,C,h,h2=>by
  have:A=[]:=h;subst this;exact h2
 | t::ts,D,_,C,h,h2=>by
  obtain⟨v,A,rfl,E,F⟩:=h;exact⟨v,A++C,rfl,E,iP.append F h2⟩
theorem iP.below{w w':World}{B C:Nat}(E:Below C w w')(D:B<=C):∀{ts:List ae}{A:List (List Value)},iP w B ts A->iP w' B ts A
 | [],_,h=>h
 | _::_,_,h=>by
  obtain⟨v,A,rfl,F,G⟩:=h;exact⟨v,A,rfl,ky.below E D _ _ F,iP.below E D G⟩
theorem iP.lens{w:World}{B:Nat}:∀{ts:List ae}{D:List (List Value)},iP w B ts D->(List.flatten D).length=ts.length*5/\∀u∈List.flatten D,u.oneCell'=true
 | [],D,h=>by
  have:D=[]:=h;subst this;exact⟨rfl,by simp⟩
 | t::ts,_,h=>by
  obtain⟨v,D,rfl,F,G⟩:=h;have E:=iP.lens G;obtain⟨A,c,rfl,-⟩:=F.five;refine⟨?_,fun u C=>?_⟩
  ·simp only[List.flatten_cons,aam,E.1,aao,List.length_nil]
   omega
  ·simp only[List.flatten_cons,List.mem_append]at C
   rcases C with C|C
   ·simp at C
    rcases C with rfl|rfl|rfl|rfl|rfl<;>rfl
   ·exact E.2 u C
def NodesRes(w:World)(B:Nat)(ts:List ae)(e:Ending)(w':World):Prop:=
 ∃v n vals,e= .returned v/\n=ts.length/\aK w' w.heap.size 24 5 v n (List.flatten vals)/\iP w' B ts vals/\Below w.heap.size w w'
theorem ED:∀(m:Nat) (t:ae) (A:Option Addr) (c:Nat) (w:World) (B:Nat),B<=w.heap.size->ai t<=m->m<=1000000000->t.kids.length<=c->aJ w B A 0 t.kids ->
 Calls Tryz.prog 36 #[aZ t A c] w (NodesRes w B (bT t)):=by
 obtain⟨i0,hi0,hz0,hz1,hz2⟩:=info_parts sF;intro m
 induction m with
 | zero=>
  intro t A c w B _ h;have:=tT t;omega
 | succ m ih=>
  intro t A c w B W hm hbig R hk;have hce:=pO t;have hnd:=wQ t;obtain⟨C,nY⟩:∃x,t.kids=x:=⟨_,rfl⟩
  obtain⟨n,hn⟩:∃x,C.length=x:=⟨_,rfl⟩
  have ZY:∀w',aJ w' B A 0 t.kids->ky w' B t [.int .i64 t.kind,.string t.text,.int .i64 t.at_,.int .i64 t.end_,.slice A t.kids.length c]:=fun w' h=>by cases t;exact⟨A,c,rfl,R,h⟩
  unfold aZ;rw[nY]at hk hce hnd ZY⊢;rw[hn]at ZY⊢;obtain⟨k,hk0⟩:∃x,t.kind=x:=⟨_,rfl⟩
  obtain⟨x,hx0⟩:∃x,t.text=x:=⟨_,rfl⟩
  obtain⟨a,ha0⟩:∃x,t.at_=x:=⟨_,rfl⟩
  obtain⟨z,hzz⟩:∃x,t.end_=x:=⟨_,rfl⟩
  rw[hk0,hx0,ha0,hzz]at ZY⊢;have d:=jO C;have HTN:=kH ZY;have HK:=kH hk;have HN:=kH hn;have lh:=kH hnd;have fE:=kH ih;have HM:Hid (aD C<=m/\m<=1000000000):=kH ⟨by omega,by omega⟩;have hnb:n<=1000000000:=by omega
  clear hk hce ih hm hbig R hk0 hx0 ha0 hzz nY hn d ZY hnd;go_in
  go_wp2_with fail
  generalize N:w.alloc (.cells #[.int .i64 k,.string x,.int .i64 a,.int .i64 z,.slice A n c] 24)=W1
  have l:Below w.heap.size w W1:=by rw[<- N];exact ag _ _
  have iE:aj W1 w.heap.size 24 #[.int .i64 k,.string x,.int .i64 a,.int .i64 z,.slice A n c]:=by rw[<- N];exact aj.new w _ _
  have hs1:W1.heap.size=w.heap.size+1:=by rw[<- N];simp
  rw[<- hs1];generalize O:W1.alloc (.cells #[.int .i64 k,.string x,.int .i64 a,.int .i64 z,.slice A n c] 24)=W2
  have f:Below W1.heap.size W1 W2:=by rw[<- O];exact ag _ _
  have hO2:aK W2 W1.heap.size 24 5 (.slice (some ⟨W1.heap.size,0,none⟩) 1 1) 1 (List.flatten [[.int .i64 k,.string x,.int .i64 a,.int .i64 z,.slice A n c]]):=by
   have:=aK.block (base:=W1.heap.size) (e:=24) (size:=5) (n:=1) (aab _) (aj.new W1 24 #[.int .i64 k,.string x,.int .i64 a,.int .i64 z,.slice A n c]) (by simp[maxLen]) rfl;rw[O]at this;exact this
  have Y:=iE.below f iE.lt;have lY:=l.trans (f.mono l.size);have hk2:=aJ.below lY W _ _ _ HK.out;have hv2:iP W2 B [t] [[.int .i64 k,.string x,.int .i64 a,.int .i64 z,.slice A n c]]:=⟨_,_,rfl,HTN.out W2 hk2,rfl⟩
  have HR2:=kH Y;have r9:=kH hO2;have HB2:=kH lY;have fU:=kH hv2;have JJ:=kH hk2;have hl2:=Y.lt;have pR:Hid (W1.heap.size=w.heap.size+1/\W1.heap.size<W2.heap.size):=kH ⟨hs1,by rw[<- O];simp⟩;clear N O l f iE Y hO2 lY hk2 hv2 hs1;go_loopg [3,4] n (fun gk s3 s4 wr=> ∃(i:Nat) (A3:Option Addr) (K c3:Nat) (vals:List (List Value)),i+gk=n/\s3= .slice A3 K c3/\s4= .int .i64 (i:Int)/\K=1+aD (C.take i)/\aK wr W1.heap.size 24 5 (.slice A3 K c3) K (List.flatten vals)/\iP wr B (t::dz (C.take i)) vals/\Below W1.heap.size W2 wr)
  case atStart=>exact⟨0,_,1,1,_,by omega,rfl,rfl,by simp[aD],r9.out,by simpa [dz] using fU.out,Below.refl _ _⟩
  case round=>
   obtain⟨i,A3,K,c3,vals,hi,rfl,rfl,yw,hO,hV,hB⟩:=hrel;have y:=pR.out;have Z:=HR2.out.below hB (by omega);have hc4:wr.cell? ⟨w.heap.size,4,none⟩=some (.slice A n c):=Z.cell 4;have hlr:=Z.lt;have M:=kH hB;have HI:=kH hi;have HO:=kH hO;have HV:=kH hV;have jA:=kH yw;have hin:i<=n:=by omega
   have d:=iZ C i;have hcb:K<=1000000001:=by have:=HM.out;omega
   clear hB Z hi d hO hV yw y;by_cases hlt:i<n
   ·have hlt':(i:Int)<(n:Int):=by omega
    obtain⟨u,hu⟩:∃u,C[i]? =some u:=⟨_,aaf (by rw[HN.out];exact hlt)⟩
    obtain⟨kv,⟨b,L,hA,hbl,E⟩,hT⟩:=JJ.out.get i u hu;obtain⟨A',c',jF,hK'⟩:=hT.five;subst hA;subst jF;have G:=hT.cap;have y:=pR.out;have hbb:b<wr.heap.size:=by omega
    have F:b<W1.heap.size:=by omega
    have t0:wr.cell? ⟨b,L+i*5,none⟩=some (.int .i64 u.kind):=(M.out.cell (p:=⟨b,_,none⟩) F).trans (by simpa using E 0 _ rfl);have t1:wr.cell? ⟨b,L+i*5+1,none⟩=some (.string u.text):=(M.out.cell (p:=⟨b,_,none⟩) F).trans (by simpa using E 1 _ rfl);have t2:wr.cell? ⟨b,L+i*5+2,none⟩=some (.int .i64 u.at_):=(M.out.cell (p:=⟨b,_,none⟩) F).trans (by simpa using E 2 _ rfl);have t3:wr.cell? ⟨b,L+i*5+3,none⟩=some (.int .i64 u.end_):=(M.out.cell (p:=⟨b,_,none⟩) F).trans (by simpa using E 3 _ rfl);have t4:wr.cell? ⟨b,L+i*5+4,none⟩=some (.slice A' u.kids.length c'):=(M.out.cell (p:=⟨b,_,none⟩) F).trans (by simpa using E 4 _ rfl);have htk:=gD C i u hu;have hle:=iZ C (i+1);have hnt:=Df C i u hu;have KM:=M.out.size;have D:=fE.out u A' c' wr B (by omega) (by have:=HM.out;omega) HM.out.2 G (aJ.below M.out (by omega) _ _ _ hK');unfold aZ at D;have HC:=kH D;have zG:=kH htk;have JH:=kH hnt;have hub:ai u<=1000000001:=by have:=HM.out;omega
    have zF:=kH hub;have hup:=tT u;have HUP:=kH hup;have hwr:IntKind.i64.wrap ((i:Int)+1)=(i:Int)+1:=IntWalk.i64_in _ (by omega);obtain⟨un,hun⟩:∃q,u.kids.length=q:=⟨_,rfl⟩
    rw[hun]at t4 HC;have HZ:Hid (W1.heap.size<=wr.heap.size/\w.heap.size<=W1.heap.size/\w.heap.size<wr.heap.size):=kH ⟨by omega,by omega,by omega⟩;clear E hT hK' htk hle hnt D hu hun hub hup y KM G;go_wp2_with fail
    refine HC.out.mono ?_;rintro e w5 ⟨v5,n5,Qe,rfl,FD,X,r,P⟩;rw[iY]at FD;have T:0<n5:=by rw[FD];exact HUP.out
    obtain⟨g5,U,cap5,rfl,hc5,iC,hg5,hgl5,Vo⟩:=X.form T;have XY:=r.lens;rw[iY,<- FD]at XY;have Q:=HO.out.below P (fun g S=>(HO.out.lt g S).2);have hsz5:=P.size;have HO5R:=kH Q;have HL5:=kH XY
    have En:Hid (∀j u,(List.flatten Qe)[j]? =some u->w5.cell? ((⟨g5,U,none⟩:Addr).add j)=some u):=kH (fun j u hu=>by
     have h5:=Vo j u hu;by_cases h0:j=0
     ·subst h0
      simpa [Addr.add] using h5
     ·simpa [Addr.add,h0] using h5)
    have HV5:=kH r;have gG:=kH P;have Em:=kH X;have CS:=kH FD;have hn5b:n5<=1000000001:=by have:=zF.out;omega
    have V:Hid (W1.heap.size<=w5.heap.size/\wr.heap.size<=g5):=kH ⟨by have:=HZ.out;omega,hg5⟩;clear Q XY Vo r P X FD hc5 iC hg5 T;go_wp2_with (at_builtin;go_must (refine di _ rfl (.tmp 14) (.tmp 20) _ rfl W1.heap.size 24 i0 _ 5 64 Tryz.underlying22 hi0 hz0 hz1 hz2 rfl (.slice A3 K c3) K (List.flatten vals) rfl HO5R.out ⟨g5,U,none⟩ n5 cap5 (List.flatten Qe) rfl HL5.out.1 (En.out) HL5.out.2 (by simp only[maxLen];omega) (by omega) V.out.1 ?_);intro vn w6 I H hat;obtain⟨A6,c6,nC,-,-⟩:=I.shape;subst nC;have HOWN:=kH I;have qy:=kH H;clear I H hat)
    have zz:Below W1.heap.size W2 w6:=((M.out.trans (gG.out.mono HZ.out.1)).trans (((aF.refl (fun g=>W1.heap.size<=g) w5).grown qy.out (fun g S=>.inl (HO.out.lt g S).1)).toBelow V.out.1 (fun g S=>S)))
    have hb56:Below w.heap.size w5 w6:=((aF.refl (fun g=>W1.heap.size<=g) w5).grown qy.out (fun g S=>.inl (HO.out.lt g S).1)).toBelow (by have:=HZ.out;have:=V.out;omega) (fun g S=>by have:=HZ.out;omega)
    have hV6:iP w6 B (t::dz (C.take (i+1))) (vals++Qe):=by
     rw[JH.out,<- List.cons_append];exact((HV.out.below (gG.out.mono (by have:=HZ.out;omega)) W).append HV5.out).below hb56 W
    go_roundg (gk - 1)
    case measure=>have:=HI.out;omega
    case rel=>exact⟨i+1,A6,K+n5,c6,vals++Qe,by have:=HI.out;omega,rfl,by simp,by rw[zG.out,jA.out,CS.out];omega,by rw[List.flatten_append];exact HOWN.out,hV6,zz⟩
   ·have hie:i=n:=by omega
    have J:C.take i=C:=by rw[hie,<- HN.out,List.take_length]
    have v:=HV.out;rw[J,<- lh.out]at v;have HV2':=kH v;have hn2:K=(bT t).length:=by rw[jA.out,J,lh.out,aao,Aq];omega
    have vB:=kH hn2;clear v hn2;go_wp2_with fail
    go_ret
    exact⟨_,K,vals,rfl,vB.out,HO.out.mono (by have:=pR.out;omega),HV2'.out,HB2.out.trans (M.out.mono (by have:=pR.out;omega))⟩
end Go.Proofs.YtoepemlnlpamlaaGreat
