/- Collect agrees with the reference. Part 17: KMk KOut KLoop KSolve2 KAwake ColL Row. -/
import Derived.Lib.SmallJoins
import Derived.Test.YtoepemlnlpamlaaGreatColl16
set_option maxRecDepth 100000
set_option maxHeartbeats 4000000
namespace Go.Proofs.YtoepemlnlpamlaaGreat
open Go.RowKit
theorem Vp(a b c:Value)(n:Nat):(madeCells #[a,b,c] (n*3)).toList=(List.replicate n [a,b,c]).flatten:=by
 unfold madeCells;rw[Array.toList_map,Array.toList_range]
 induction n with
 | zero=>rfl
 | succ n ih=>
  rw[Nat.succ_mul,List.range_add,List.map_append,ih,List.replicate_succ',List.flatten_append];congr 1
  have A:(n*3) % 3=0:=by omega
  have B:(n*3+1) % 3=1:=by omega
  have C:(n*3+2) % 3=2:=by omega
  simp[List.range_succ,A,B,C]
theorem ty_info:(Tryz.prog.info? 108).map (fun i=>(i.zero,i.size,i.bytes))=some (some (.agg #[.int .i64 0,.int .i64 0,.string ⟨#[]⟩]),3,32):=by kernel_rfl
theorem Ze:(Tryz.prog.info? 4).map (fun i=>(i.zero,i.size,i.bytes))=some (some (.bool false),1,1):=by kernel_rfl
theorem Gt(n:Nat)(G:n<=1000000)(w:World):
 (Instr.makeSlice 102 (.int .i64 (n:Int)) (.int .i64 (n:Int))).run Tryz.prog w= .ok (.slice (some ⟨w.heap.size,0,none⟩) n n) (w.alloc (.cells ((List.replicate n gI).flatMap iy).toArray 108)):=by
 obtain⟨F,A,B,C,D⟩:=info_parts ty_info;have h:=run_make (P:=Tryz.prog) w 102 108 F _ Tryz.underlying102 A B .i64 .i64 n n (by omega) (by omega) (by rw[D];omega) (by omega);rw[h];simp only[Int.toNat_natCast,C]
 have E:madeCells (Value.agg #[.int .i64 0,.int .i64 0,.string ⟨#[]⟩]).cells (n*3)=((List.replicate n gI).flatMap iy).toArray:=by
  apply Array.ext'
  show(madeCells #[.int .i64 0,.int .i64 0,.string ⟨#[]⟩] (n*3)).toList=_;rw[Vp];simp[List.flatMap,iy,gI]
 rw[E]
def jX(w:World)(g:Nat)(l:List Bool):Prop:=ah w g 4 (l.map Value.bool).toArray
theorem jX.cell{w:World}{g:Nat}{l:List Bool}(h:jX w g l){i:Nat}(A:i<l.length):w.cell? ⟨g,i,none⟩=some (.bool (l.getD i false)):=by
 rw[ah.cell h i];simp[ace A]
theorem jX.set{w:World}{g:Nat}{l:List Bool}(h:jX w g l)(i:Nat)(b:Bool):jX (w.setCell ⟨g,i,none⟩ (.bool b)) g (l.set i b):=by
 have:=ah.dB h i (.bool b);unfold jX;simpa [List.map_set] using this
theorem abr(x:qZ):∀(l:List qZ) (i:Nat),i<l.length->(((l.flatMap iy).set (i*3) (.int .i64 x.k)).set (i*3+1) (.int .i64 x.n)).set (i*3+2) (.string x.r)=(l.set i x).flatMap iy:=by
 intro l
 induction l with
 | nil=>intro i h;simp at h
 | cons y l ih=>
  intro i h
  cases i with
  | zero=>simp[iy]
  | succ i=>
   have e:=ih i (by simpa using h);rw[sC,List.flatMap_cons,List.flatMap_cons,<- e,show(i+1)*3=i*3+3 by omega];simp[iy]
theorem lC.set{w:World}{g:Nat}{l:List qZ}(h:lC w g l){i:Nat}(B:i<l.length)(x:qZ):
 lC (((w.setCell ⟨g,i*3,none⟩ (.int .i64 x.k)).setCell ⟨g,i*3+1,none⟩ (.int .i64 x.n)).setCell ⟨g,i*3+2,none⟩ (.string x.r)) g (l.set i x):=by
 have A:=((ah.dB h (i*3) (.int .i64 x.k)).dB (i*3+1) (.int .i64 x.n)).dB (i*3+2) (.string x.r);unfold lC;rw[<- abr x l i B];simpa using A
theorem Ye(l:List Int):bL l=l.flatMap fun z=>[Value.int .i64 z]:=by
 induction l with
 | nil=>rfl
 | cons x l ih=>rw[List.flatMap_cons,<- ih];rfl
def mi(w:World)(base:Nat)(v:Value)(pg:List (List Int)):Prop:=
 ∃vals:List Value,aG w base 28 1 v pg.length vals/\∀(j:Nat) (ch:List Int),pg[j]? =some ch->∃x,vals[j]? =some x/\aG w base 3 1 x ch.length (bL ch)
theorem mi.nil(w:World)(base:Nat):mi w base (.slice none 0 0) []:=⟨[],aG.nil _ _ _ _,fun j ch h=>by simp at h⟩
theorem mi.since{S:Nat->Prop}{w w':World}{base:Nat}{v:Value}{G:List (List Int)}(h:mi w base v G)(F:ak S w w')(D:∀g,S g->g<base):mi w' base v G:=by
 obtain⟨vals,C,I⟩:=h;refine⟨vals,C.since F (fun g B A=>by have:=D g A;have:=(C.lt g B).1;omega),fun j ch J=>?_⟩;obtain⟨x,K,E⟩:=I j ch J;exact⟨x,K,E.since F (fun g B A=>by have:=D g A;have:=(E.lt g B).1;omega)⟩
theorem mi.push{w G:World}{base:Nat}{v N x:Value}{C:List (List Int)}{ch:List Int}{vals:List Value}(L:aG w base 28 1 v C.length vals)
 (Q:∀(j:Nat) (ch:List Int),C[j]? =some ch->∃x,vals[j]? =some x/\aG w base 3 1 x ch.length (bL ch)) (S:aG w base 3 1 x ch.length (bL ch))
 (R:∀k,k<w.heap.size->some k≠v.ownBlock->G.heap[k]? =w.heap[k]?) (F:aG G base 28 1 N (C.length+1) (vals++[x])):mi G base N (C++[ch]):=by
 have J:vals.length=C.length:=by have:=L.1;simpa using this
 have B:∀(y:Value) (c:List Int),aG w base 3 1 y c.length (bL c)->aG G base 3 1 y c.length (bL c):=fun y c E=>
  E.of_block fun g M=>R g (E.lt g M).2 (fun O=>L.apart E (by decide) g O.symm M)
 refine⟨vals++[x],by simpa using F,fun j c A=>?_⟩;by_cases I:j<C.length
 ·rw[List.getElem?_append_left I]at A
  obtain⟨y,T,E⟩:=Q j c A;exact⟨y,by rw[List.getElem?_append_left (by omega)];exact T,B y c E⟩
 rw[ack (by omega)]at A
 have D:j - C.length=0:=by
  rcases Nat.eq_zero_or_pos (j - C.length) with K|K
  ·exact K
  rw[List.getElem?_eq_none (by simp;omega)]at A;cases A
 rw[D]at A;simp at A;subst A;refine⟨x,?_,B x ch S⟩;rw[ack (by omega),J,D];rfl
theorem mi.read{w:World}{base:Nat}{v:Value}{C:List (List Int)}(h:mi w base v C):∃A c,v= .slice A C.length c/\lZ w w.heap.size A C:=by
 obtain⟨vals,G,Q⟩:=h;obtain⟨A,c,I,_,_⟩:=G.shape;refine⟨A,c,I,fun k ch J=>?_⟩;obtain⟨x,T,K⟩:=Q k ch J;have S:k<C.length:=(acg.1 J).1;obtain⟨g,F,N,L,_,_,_,E,R⟩:=G.form (by omega);rw[I]at L;cases L
 obtain⟨M,O,B,D,_⟩:=K.shape;refine⟨g,F,M,O,rfl,E,by rw[R k x T,B],D,K.rowAt B (Ye ch) (by intro c _;rfl) rfl⟩
def bV(d:List Int)(q:Nat):List Nat:=(List.range q).filter fun w=>decide (0<=d.getD w 0)
theorem Di{d:List Int}{q:Nat}(h:0<=d.getD q 0):bV d (q+1)=bV d q++[q]:=by
 unfold bV;rw[List.range_succ,List.filter_append];have:decide (0<=d.getD q 0)=true:=by simpa using h
 simp only[List.filter_cons,List.filter_nil,this,if_true]
theorem WL{d:List Int}{q:Nat}(h:d.getD q 0<0):bV d (q+1)=bV d q:=by
 unfold bV;rw[List.range_succ,List.filter_append];have:decide (0<=d.getD q 0)=false:=decide_eq_false (by omega);simp only[List.filter_cons,List.filter_nil,this,Bool.false_eq_true,if_false,List.append_nil]
theorem WM{d:List Int}{q:Nat}:∀u∈bV d q,u<q:=fun u A=>by
 have:=(List.mem_filter.1 A).1;simpa using this
theorem yP(d:List Int)(q:Nat):(bV d q).length<=q:=by
 have:=List.length_filter_le (fun w=>decide (0<=d.getD w 0)) (List.range q);simpa [bV] using this
theorem Ri(M:Nat->List Nat)(B:Nat)(h:∀v,(M v).length<=B):∀A:List Nat,(A.flatMap M).length<=A.length*B:=by
 intro A
 induction A with
 | nil=>simp
 | cons v A ih=>
  rw[List.flatMap_cons,acm,aco,Nat.succ_mul];have:=h v;omega
structure L3 (wd:World) (H2:Nat) (wF:List Bool) (d:List Int) (M:Nat->List Nat) (q:Nat) (s15 s16:Value) (wx:World):Prop where
 cls:aG wx wd.heap.size 3 1 s15 (bV d q).length (bL ((bV d q).map fun x:Nat=>(x:Int)))
 mks:aG wx wd.heap.size 3 1 s16 ((bV d q).flatMap M).length (bL (((bV d q).flatMap M).map fun x:Nat=>(x:Int)))
 apart:∀g,s15.ownBlock=some g->s16.ownBlock≠some g
 seen:jX wx H2 (mU true wF (bV d q))
 since:ak (fun g=>g=H2) wd wx
theorem IP{B:Type}(x:B)(l:List B)(A:List Nat)(q:Nat):mU x l (A++[q])=(mU x l A).set q x:=by
 unfold mU;rw[List.foldl_append];rfl
theorem L3.start{A:World}{B:Nat}{C:List Bool}(d:List Int)(M:Nat->List Nat)(h:jX A B C):L3 A B C d M 0 (.slice none 0 0) (.slice none 0 0) A:=
 ⟨aG.nil _ _ _ _,aG.nil _ _ _ _,fun g D=>(by cases D),h,ak.refl _ _⟩
theorem L3.no{E:World}{C:Nat}{D:List Bool}{d:List Int}{M:Nat->List Nat}{q:Nat}{A B:Value}{F:World}(h:L3 E C D d M q A B F)(G:d.getD q 0<0):L3 E C D d M (q+1) A B F:=by
 obtain⟨I,J,K,L,N⟩:=h;constructor
 all_goals (try rw[WL G])
 all_goals assumption
theorem L3.yes{T:World}{E:Nat}{t:List Bool}{d:List Int}{M:Nat->List Nat}{q:Nat}{N D O X:Value}{n S R u:World}(h:L3 T E t d M q N D n)(y:0<=d.getD q 0)(f:E<T.heap.size)
 (K:jX S E ((mU true t (bV d q)).set q true)) (C:ak (fun g=>g=E) T S) (m:n.heap.size<=S.heap.size)
 (A:aG R T.heap.size 3 1 O ((bV d q).length+1) (bL ((bV d q).map fun x:Nat=>(x:Int))++[.int .i64 (q:Int)])) (G:S.grownBy R N.ownBlock) (Z:O.ownBlock=N.ownBlock\/O.ownBlock=some S.heap.size)
 (J:aG u T.heap.size 3 1 X (((bV d q).flatMap M).length+(M q).length) (bL (((bV d q).flatMap M).map fun x:Nat=>(x:Int))++bL ((M q).map fun x:Nat=>(x:Int)))) (I:R.grownBy u D.ownBlock) (Y:X.ownBlock=D.ownBlock\/X.ownBlock=some R.heap.size):
 L3 T E t d M (q+1) O X u:=by
 have V:=fun g F=>h.cls.lt g F
 have L:=fun g F=>h.mks.lt g F
 have l:=G.size
 have U:O.ownBlock=none\/O.ownBlock≠D.ownBlock:=by
  cases r:O.ownBlock with
  | none=>exact .inl rfl
  | some g=>
   refine .inr fun B=>?_
   rcases Z with Q|Q
   ·exact h.apart g (by rw[<- Q,r]) B.symm
   rw[r]at Q;have:=(L g B.symm).2;have:g=S.heap.size:=by injection Q
   omega
 refine⟨?_,?_,fun g F B=>?_,?_,?_⟩
 ·rw[Di y]
  have:=A.kept I U;simpa [bL] using this
 ·rw[Di y,List.flatMap_append]
  simpa [bL] using J
 ·rcases Y with W|W
  ·rcases U with z|z
   ·rw[z]at F;cases F
   exact z (by rw[F,<- W,B])
  have j:g=R.heap.size:=by
   rw[B]at W;injection W
  have:=(A.lt g F).2;omega
 ·rw[Di y,IP]
  have Q:ah R E _ _:=ah.grown K G (fun B=>by have:=(V E B.symm).1;omega);exact Q.grown I (fun B=>by have:=(L E B.symm).1;omega)
 exact(C.grown G (fun k v=>.inr (V k v).1)).grown I (fun k v=>.inr (L k v).1)
theorem aS.news{w:World}{B:Nat}{A:Option Addr}{l:List Nat}(h:aS 1 pQ w B A l):∀j u,(bL (l.map fun x:Nat=>(x:Int)))[j]? =some u->∃a,A=some a/\w.cell? (a.add j)=some u:=by
 intro j u C;rw[List.getElem?_map,List.getElem?_map]at C
 cases D:l[j]? with
 | none=>rw[D]at C;cases C
 | some z=>
  rw[D]at C;obtain⟨b,G,E,_,F⟩:=h j z D;refine⟨_,E,?_⟩;have:=F 0 _ rfl;rw[Addr.add_lit];simp at C;subst C;simpa using this
theorem ivs_one(l:List Nat):∀u∈bL (l.map fun x:Nat=>(x:Int)),u.oneCell'=true:=by
 intro u A;obtain⟨z,_,rfl⟩:=List.mem_map.1 A;rfl
def tQ(wx:World)(base:Nat)(b:Option (List Int))(s:Value):Prop:=
 match b with
 | none=>s= .slice none 0 0
 | some ch=>ch≠[]/\aG wx base 3 1 s ch.length (bL ch)
theorem tQ.none{A:World}{base:Nat}:tQ A base none (.slice none 0 0):=rfl
theorem tQ.keep{A wy:World}{base:Nat}{b:Option (List Int)}{s:Value}(h:tQ A base b s)(C:∀g,base<=g->g<A.heap.size->wy.heap[g]? =A.heap[g]?):tQ wy base b s:=by
 cases b with
 | none=>exact h
 | some ch=>exact⟨h.1,h.2.of_block fun g B=>C g (h.2.lt g B).1 (h.2.lt g B).2⟩
def Xx(t:qZ):Array Value:=#[.int .i64 t.k,.int .i64 t.n,.string t.r]
theorem Rt(E:List (List dS))(n:Nat)(A:Nat->Option Nat)(i B:Nat)(ch:List Int)(h:oo E n A i B=some ch):ch≠[]:=by
 unfold oo at h;split at h
 ·cases h
 simp only[acf]at h;subst h;simp
theorem OO(E:List (List dS))(n:Nat)(l:List bD)(M:Nat->List Nat)(A:ym)(v:Nat):
 (mf E n l M A v).out.length=A.out.length/\(mf E n l M A v).seen.length=A.seen.length/\(mf E n l M A v).chains.length<=A.chains.length+1:=by
 unfold mf;split
 ·exact⟨rfl,rfl,by omega⟩
 split
 ·exact⟨rfl,wE _ _ _,by simp⟩
 exact⟨wE _ _ _,wE _ _ _,by simp⟩
theorem OM(l:List bD)(n k:Nat):(bS l n k).out.length=n/\(bS l n k).seen.length=n/\(bS l n k).chains.length<=k:=by
 induction k with
 | zero=>exact⟨by simp[bS],by simp[bS],by simp[bS]⟩
 | succ k ih=>
  rw[qG];have h:=OO (gD l n l.length) n l (cK l l.length) (bS l n k) k;omega
theorem xP{E:List (List dS)}{n:Nat}{l:List bD}{M:Nat->List Nat}{A:ym}{v:Nat}(h:A.seen.getD v false=true):mf E n l M A v=A:=by
 unfold mf;rw[if_pos h]
theorem BR{E:List (List dS)}{n:Nat}{l:List bD}{M:Nat->List Nat}{A:ym}{v:Nat}(h:A.seen.getD v false=false){ch:List Int}{t:qZ}
 (B:(iB M (pX E n v)).foldl (oU E n l M) (none,gI)=(some ch,t)):mf E n l M A v=⟨A.out,A.chains++[ch],mU true A.seen (pX E n v)⟩:=by
 unfold mf;rw[if_neg (by rw[h];decide),B]
theorem Mt{E:List (List dS)}{n:Nat}{l:List bD}{M:Nat->List Nat}{A:ym}{v:Nat}(h:A.seen.getD v false=false){t:qZ}
 (B:(iB M (pX E n v)).foldl (oU E n l M) (none,gI)=(none,t)):mf E n l M A v=⟨mU t A.out (pX E n v),A.chains,mU true A.seen (pX E n v)⟩:=by
 unfold mf;rw[if_neg (by rw[h];decide),B]
theorem Rj(l:List qZ):∀(u:Nat) (x:qZ),l[u]? =some x->(l.flatMap iy)[u*3]? =some (.int .i64 x.k)/\(l.flatMap iy)[u*3+1]? =some (.int .i64 x.n)/\(l.flatMap iy)[u*3+2]? =some (.string x.r):=by
 induction l with
 | nil=>intro u x h;simp at h
 | cons y l ih=>
  intro u x h
  cases u with
  | zero=>simp at h;subst h;simp[iy]
  | succ u=>
   have:=ih u x (by simpa using h);rw[List.flatMap_cons,show(u+1)*3=u*3+3 by omega];simpa [iy] using this
theorem lC.cells{w:World}{g:Nat}{l:List qZ}(h:lC w g l){u:Nat}(D:u<l.length):∃x:qZ,w.cell? ⟨g,u*3,none⟩=some (.int .i64 x.k)/\w.cell? ⟨g,u*3+1,none⟩=some (.int .i64 x.n)/\w.cell? ⟨g,u*3+2,none⟩=some (.string x.r):=by
 obtain⟨A,B,C⟩:=Rj l u l[u] (ace D);exact⟨l[u],by rw[ah.cell h];simpa using A,by rw[ah.cell h];simpa using B,by rw[ah.cell h];simpa using C⟩
def uY(b:Option (List Int))(r:Option (List Int)):Option (List Int):=
 match r with
 | none=>b
 | some ch=>(match b with|none=>some ch|some old=>if ch.length<old.length then some ch else some old)
theorem Tn{E:List (List dS)}{n:Nat}{l:List bD}{M:Nat->List Nat}{b:Option (List Int)×qZ}{i A:Nat}{c:bD}(D:l[i]? =some c)(C:c.a=(A:Int)):
 oU E n l M b (i:Int)=(uY b.1 (oo E n (iA l M i) i A),if c.tk≠5/\c.tk≠6 then c.mark else b.2):=by
 have B:((i:Int)).toNat=i:=Int.toNat_natCast i;unfold oU;rw[B,D];simp only[C,Int.toNat_natCast];rfl
theorem PZ(w:World):(binOp .eql 28 (.slice none 0 0) (.slice none 0 0)).run Tryz.prog w= .ok (.bool true) w:=
 Lib.run_eql_slice_nil w 28 3 none 0 0 0 0 Tryz.underlying28
theorem PX(w:World):(binOp .neq 28 (.slice none 0 0) (.slice none 0 0)).run Tryz.prog w= .ok (.bool false) w:=by
 simp only[binOp];simp[Op.equal,Op.maxDepth,Lib.run_equalIn_slice_nil w 9999 28 3 none 0 0 0 0 Tryz.underlying28]
theorem SI(w:World)(b A n c:Nat):(binOp .neq 28 (.slice (some ⟨b,A,none⟩) n c) (.slice none 0 0)).run Tryz.prog w= .ok (.bool true) w:=by
 simp only[binOp];simp[Op.equal,Op.maxDepth,Lib.run_equalIn_slice_nil w 9999 28 3 (some ⟨b,A,none⟩) n c 0 0 Tryz.underlying28]
theorem Yi:(Tryz.prog.info? 28).map (fun i=>(i.zero,i.size,i.bytes))=some (some (.slice none 0 0),1,24):=by kernel_rfl
theorem X6{M:Nat->List Nat}{A:List Nat}{z:Int}(h:z∈iB M A):∃i v:Nat,z=(i:Int)/\v∈A/\i∈M v:=by
 unfold iB at h;rw[List.mem_mergeSort,List.mem_map]at h;obtain⟨i,B,rfl⟩:=h;obtain⟨v,D,C⟩:=List.mem_flatMap.1 B;exact⟨i,v,rfl,D,C⟩
theorem Nj(n:Nat)(AL:Option Addr)(nl cL:Nat)(l:List bD)(w:World)(hL:aS 8 aT w w.heap.size AL l)(hl:l.length=nl)(hn:n<=4096)(im:nl<=200):
 Calls Tryz.prog 56 #[.int .i64 (n:Int),.slice AL nl cL] w (Ot w n l):=by
 obtain⟨i0,eT,fX,fY,Y⟩:=info_parts mH;obtain⟨j0,hW,iJ,iM,iS⟩:=info_parts Y4;have kF:=Gu 151 155 _ 24 Tryz.underlying151 WK rfl (by omega) n (by omega);have kX:=@run_makeMap Tryz.prog;have Ef:=kH (Gt n (by omega));have iY:=kH (Gu 158 4 _ 1 Tryz.underlying158 Ze rfl (by omega) n (by omega));have kc:decide ((n:Int)<0)=false:=by simp
 have ke:decide ((4096:Int)<(n:Int))=false:=by simp;omega
 have HL:=kH hL;have Sd:=kH hl;clear hL hl;go_in
 go_wp2_with fail
 clear kc ke kF kX;generalize br:(((w.alloc (.cells #[.int .i64 (n:Int)] 3)).alloc (.cells (Array.replicate n (.slice none 0 0)) 155)).alloc (.map #[] 0)).alloc (.cells #[.slice AL nl cL,.slice (some ⟨w.heap.size+1,0,none⟩) n n,.map (some (w.heap.size+1+1))] 153)=W0
 have hj:W0.heap.size=w.heap.size+4:=by rw[<- br];simp
 have zh:Below (w.heap.size+1) (w.alloc (.cells #[.int .i64 (n:Int)] 3)) W0:=by
  rw[<- br];refine Below.alloc (Below.alloc (Below.alloc (Below.refl _ _) ?_ _) ?_ _) ?_ _<;>simp
 have h9:ah W0 (w.heap.size+1+1+1) 153 #[.slice AL nl cL,.slice (some ⟨w.heap.size+1,0,none⟩) n n,.map (some (w.heap.size+1+1))]:=by
  rw[<- br];have:=ah.new (((w.alloc (.cells #[.int .i64 (n:Int)] 3)).alloc (.cells (Array.replicate n (.slice none 0 0)) 155)).alloc (.map #[] 0)) 153 #[.slice AL nl cL,.slice (some ⟨w.heap.size+1,0,none⟩) n n,.map (some (w.heap.size+1+1))];simpa using this
 have h8:jW W0 (w.heap.size+4) (w.heap.size+1) (gD l n 0):=by
  have hb:=ah.new (w.alloc (.cells #[.int .i64 (n:Int)] 3)) 155 (Array.replicate n (.slice none 0 0));have af:=(hb.alloc (.map #[] 0)).alloc (.cells #[.slice AL nl cL,.slice (some ⟨w.heap.size+1,0,none⟩) n n,.map (some (w.heap.size+1+1))] 153);rw[br,World.size_alloc]at af;refine⟨List.replicate n (.slice none 0 0),by simpa using af,by simp[gD],fun v es hv=>?_,fun u v x y _ hx _ g C=>?_⟩
  ·have qj:v<n:=by
    have:=(acg.1 hv).1;rwa [uq]at this
   rw[nU l n 0 v qj]at hv;cases hv
   exact⟨.slice none 0 0,by simp[qj],aG.nil _ _ _ _⟩
  rw[List.getElem?_replicate]at hx;split at hx
  ·cases hx;cases C
  cases hx
 have hh:jJ W0 (w.heap.size+4) (w.heap.size+1+1) (cK l 0):=by
  have hm:=(iQ.made ((w.alloc (.cells #[.int .i64 (n:Int)] 3)).alloc (.cells (Array.replicate n (.slice none 0 0)) 155))).alloc (.cells #[.slice AL nl cL,.slice (some ⟨w.heap.size+1,0,none⟩) n n,.map (some (w.heap.size+1+1))] 153);rw[br,World.size_alloc,World.size_alloc]at hm;exact⟨_,hm,fun v=>aG.nil _ _ _ _,fun u v _ g C=>by cases C⟩
 have vU:=kH hj;have gA:=kH h9;have gx:=kH h8;have gB:=kH hh;clear hj h9 h8 hh br
 go_loopg [42] nl (fun gk lz wr=> ∃k:Nat,k+gk=nl/\lz= .int .i64 k/\(∀i c,i<k->l[i]? =some c->qz n c=true)/\jW wr (w.heap.size+4) (w.heap.size+1) (gD l n k) /\
  jJ wr (w.heap.size+4) (w.heap.size+1+1) (cK l k)/\ak (fun g=>g=w.heap.size+1\/g=w.heap.size+1+1) W0 wr)
 case atStart=>exact⟨0,by omega,rfl,fun i c hi=>by omega,gx.out,gB.out,ak.refl _ _⟩
 clear gx gB;obtain⟨k,hk,rfl,ir,hE,hM,hS⟩:=hrel;have lX:k<=nl:=by omega
 have HK:=kH hk;have da:=kH ir;have HE:=kH hE;have HM:=kH hM;clear hk ir hE hM;have c5:Below (w.heap.size+1) W0 wr:=hS.toBelow (by have:=vU.out;omega) (by omega);have dd:Below w.heap.size w wr:=(ai w _).trans ((zh.mono (by omega)).trans (c5.mono (by omega)));have vw:wr.cell? ⟨w.heap.size,0,none⟩=some (.int .i64 (n:Int)):=(c5.cell (p:=⟨w.heap.size,0,none⟩) (by simp)).trans ((zh.cell (p:=⟨w.heap.size,0,none⟩) (by simp)).trans (by simp));have m4:w.heap.size+4<=wr.heap.size:=by have:=hS.size;have:=vU.out;omega
 have b0:ah wr (w.heap.size+1+1+1) _ _:=gA.out.since hS (by omega);have ax:=b0.cell 1;have ay:=b0.cell 2;simp only[acj,ach,aci]at ax ay;clear b0 c5;by_cases bj:k<nl
 ·have kA:k<l.length:=by rw[Sd.out];exact bj
  have bh:l[k]? =some l[k]:=ace kA;obtain⟨lb,kr,hA,kC,O⟩:=(HL.out.below dd (ab9 _)) k _ bh;subst hA;have ht:wr.cell? ⟨lb,kr+k*8,none⟩=some (.int .i64 l[k].kind):=O 0 _ rfl;have hy:wr.cell? ⟨lb,kr+k*8+1,none⟩=some (.int .i64 l[k].a):=O 1 _ rfl;have hD:wr.cell? ⟨lb,kr+k*8+2,none⟩=some (.int .i64 l[k].b):=O 2 _ rfl;have hF:wr.cell? ⟨lb,kr+k*8+3,none⟩=some (.int .i64 l[k].tk):=O 3 _ rfl;have hG:wr.cell? ⟨lb,kr+k*8+4,none⟩=some (.int .i64 l[k].tl):=O 4 _ rfl;have hH:wr.cell? ⟨lb,kr+k*8+5,none⟩=some (.string l[k].tr):=O 5 _ rfl;have hI:wr.cell? ⟨lb,kr+k*8+6,none⟩=some (.int .i64 l[k].at_):=O 6 _ rfl;have hJ:wr.cell? ⟨lb,kr+k*8+7,none⟩=some (.int .i64 l[k].end_):=O 7 _ rfl;have rW:=kH bh;clear O bh;generalize l[k]=c at*
  have fc:lb<wr.heap.size:=by omega
  have l5:w.heap.size<wr.heap.size:=by omega
  have dm:w.heap.size+1<wr.heap.size:=by omega
  have l6:w.heap.size+1+1<wr.heap.size:=by omega
  have az:w.heap.size+1+1+1<wr.heap.size:=by omega
  go_wp2_with fail
  refine(La c.a n w.heap.size _ (by go_simp)).mono ?_;rintro e w1 ⟨rfl,rfl⟩;cases bt:Cc n c.a
  ·go_wp2_with fail
   go_ret3
   exact BQ rW.out (by simp[qz,bt]) (by(repeat first|exact .refl _ _|assumption|refine .trans ?_ (.mono (by assumption) ?_)|refine .alloc ?_ ?_ _|refine .setCell ?_ ?_ _|refine .drew ?_|refine aL ?_ _|omega|(simp<;>omega)))
  by_cases aq:c.kind=0
  ·have hY:(c.kind==0)=true:=by simpa using aq
   have eb:(c.kind==1)=false:=by simp[aq]
   have Ib:=kH aq;clear aq;go_wp2_with fail
   refine(EC _ _ _ _).mono ?_;rintro e w2 ⟨rfl,af⟩;cases hV:vL c.tk c.tl c.tr
   ·obtain⟨bu,bm⟩:=AO af
    have fS:=af.size;simp at fS;go_wp2_with fail
    go_ret3
    exact BQ rW.out (by simp[qz,Ib.out,hV]) (by(repeat first|exact .refl _ _|assumption|refine .trans ?_ (.mono (by assumption) ?_)|refine .alloc ?_ ?_ _|refine .setCell ?_ ?_ _|refine .drew ?_|refine aL ?_ _|omega|(simp<;>omega)))
   obtain⟨bu,bm⟩:=AO af;have fS:=af.size;simp at fS;obtain⟨av,YA,jQ⟩:=inB_nat bt;have du:=kH YA;clear YA;have gP:jW w2 (w.heap.size+4) (w.heap.size+1) (gD l n k):=HE.out.kept fun g _ C=>(af.block g (by simp;omega)).trans (Below.heap_alloc _ _ _ C)
   have bo:ak (fun g=>g=w.heap.size+1\/g=w.heap.size+1+1) W0 w2:=(hS.alloc _).below af;obtain⟨f,Lp,a8,l4,bZ⟩:=HM.out.at av;have aa:∀g,g<wr.heap.size->w2.heap[g]? =wr.heap[g]? :=fun g C=>(af.block g (by simp;omega)).trans (Below.heap_alloc _ _ _ C)
   have bk:iQ w2 (w.heap.size+1+1) f:=Lp.keep (aa _ Lp.lt);have a7:=a8.of_block (w':=w2) fun g C=>aa g (a8.lt g C).2
   have bh:∀w':World,iQ w' (w.heap.size+1+1) f->(Instr.lookup 72 (.map (some (w.heap.size+1+1))) (.int .i64 c.a) false).run Tryz.prog w'= .ok ((f (av:Int)).getD (.slice none 0 0)) w':=fun w' h'=>by
    rw[du.out];exact xR (P:=Tryz.prog) (t:=72) (kt:=3) (et:=28) Tryz.underlying72 Tryz.underlying3 Gc h' av
   have iz:∀(w':World) (v':Value),iQ w' (w.heap.size+1+1) f->∃m,(Instr.mapUpdate 72 (.map (some (w.heap.size+1+1))) (.int .i64 c.a) v').run Tryz.prog w'= .ok () m/\iQ m (w.heap.size+1+1) (fun j=>if j=(av:Int) then some v' else f j)/\w'.grownBy m (some (w.heap.size+1+1))/\m.heap.size=w'.heap.size:=fun w' v' h'=>by
    rw[du.out];exact IE (P:=Tryz.prog) (t:=72) (kt:=3) (et:=28) Tryz.underlying72 Tryz.underlying3 h' av v'
   have kE:=bh w2 bk
   have m2:(cK l k av).length<=100000:=by
    have:=FL l k av;omega
   have l3:((f (av:Int)).getD (.slice none 0 0)).ownBlock≠some (w.heap.size+1+1):=fun D=>by have:=(a7.lt _ D).1;omega
   have kn:((f (av:Int)).getD (.slice none 0 0)).ownBlock≠some (w.heap.size+1):=fun D=>by have:=(a7.lt _ D).1;omega
   have bc:∀g,((f (av:Int)).getD (.slice none 0 0)).ownBlock=some g->w.heap.size+4<=g/\g<wr.heap.size:=fun g C=>a8.lt g C
   have k1:w2.cell? ⟨wr.heap.size,1,none⟩=some (.int .i64 c.a):=by
    rw[bu _ _ (by simp)];simp
   have kv:w2.cell? ⟨w.heap.size+1+1+1,2,none⟩=some (.map (some (w.heap.size+1+1))):=by
    rw[bu _ _ (by simp;omega),World.cell?_alloc_lt _ _ _ (by simpa using az)];exact ay
   have ln:wr.heap.size<w2.heap.size:=by omega
   have lo:w.heap.size+1+1+1<w2.heap.size:=by omega
   have ei:=kH bk;have bI:=kH a7;have bx:=kH bZ;have j8:=kH gP;have Sg:=kH bh;have jo:=kH iz;have nO:=kH aa;have dD:=kH bc;clear bk a7 Lp a8 aa bZ gP bh iz bu bm af ax ay ht hy hD hF hG hH hI hJ vw bc;generalize (f (av:Int)).getD (.slice none 0 0)=val at*
   go_wp2_with fail
   refine dF (fun w'=>w'.cell? ⟨w.heap.size+1+1+1,2,none⟩=some (.map (some (w.heap.size+1+1)))/\w'.cell? ⟨wr.heap.size,1,none⟩=some (.int .i64 c.a)/\(Instr.lookup 72 (.map (some (w.heap.size+1+1))) (.int .i64 c.a) false).run Tryz.prog w'= .ok val w') [12] [true,true,true,true,true,true,true,true,true,true,false,false,false] (by kernel_rfl) (by kernel_rfl) rfl (by kernel_rfl) ?_;have bn:w2.drew.cell? ⟨w.heap.size+1+1+1,2,none⟩=some (.map (some (w.heap.size+1+1)))/\w2.drew.cell? ⟨wr.heap.size,1,none⟩=some (.int .i64 c.a)/\(Instr.lookup 72 (.map (some (w.heap.size+1+1))) (.int .i64 c.a) false).run Tryz.prog w2.drew= .ok val w2.drew:=⟨kv,k1,Sg.out _ ei.out⟩
   iterate 10(refine eD rfl bn (by intro w' ar;obtain⟨dm,l6,az⟩:=ar;go_simp;rfl) ?_;simp only[Act.put,sA,sZ,sC])
   refine eu (w':=w2.drew.alloc (.cells #[.int .i64 (k:Int)] 3)) rfl (by go_simp;rfl) ?_ ?_
   ·exact fun _=>⟨by go_simp,by go_simp,Sg.out _ (by have Lp:=ei.out;(repeat (first|assumption|refine iQ.drew ?_|refine iQ.drewN ?_ _|refine iQ.alloc ?_ _|refine iQ.setCell ?_ (by first|assumption|omega|(simp;omega)) _)))⟩
   simp only[Act.put,sA,sZ,sC];refine jR rfl (fG _ (.tmp 70) (.tmp 72) _ rfl (w.heap.size+4) 3 i0 _ 1 8 Tryz.underlying28 eT fX fY Y rfl val (cK l k av).length (bL ((cK l k av).map fun x:Nat=>(x:Int))) rfl (by have YF:=bI.out;(repeat (first|assumption|refine aG.drew ?_|refine aG.drewN ?_ _|refine aG.alloc ?_ _|refine aG.setCell ?_ (by assumption) _))) ⟨w2.heap.size,0,none⟩ 1 1 [.int .i64 (k:Int)] rfl rfl (lU _ _ _ (by go_simp)) (by simp[Value.oneCell']) (by simp only[maxLen];omega) (by omega) (by simp;omega) ?_);intro v' w3 T A cf;have b6:iQ w3 (w.heap.size+1+1) f:=iQ.grown (by have Lp:=ei.out;(repeat (first|assumption|refine iQ.drew ?_|refine iQ.drewN ?_ _|refine iQ.alloc ?_ _|refine iQ.setCell ?_ (by first|assumption|omega|(simp;omega)) _))) A (fun D=>l3 D.symm);obtain⟨m,VF,cw,dg,iv⟩:=jo.out w3 v' b6;refine⟨fun _=>⟨?_,?_,Sg.out _ b6⟩,?_⟩
   ·rw[A.cell_far _ (by simp;omega) (fun D=>by have V:=(dD.out (w.heap.size+1+1+1) D.symm).1;omega)]
    go_simp
   ·rw[A.cell_far _ (by simp;omega) (fun D=>by have V:=(dD.out wr.heap.size D.symm).2;omega)]
    go_simp
   simp only[Act.put,sA,sZ,sC];refine gH (w':=m) rfl (by go_simp) (by simp) ?_;refine gp ?_;clear VF;go_wp2_with fail
   go_roundg (gk - 1)
   case measure=>have:=HK.out;omega
   refine⟨k+1,by have:=HK.out;omega,by go_num,fun i c' hi bb=>?_,?_,?_,?_⟩
   ·by_cases eV:i=k
    ·subst eV
     rw[rW.out]at bb;cases bb
     simp[qz,bt,Ib.out,hV]
    exact da.out i c' (by omega) bb
   ·rw[Td l n k c rW.out (by rw[Ib.out];omega)]
    have jz:jW w3 (w.heap.size+4) (w.heap.size+1) (gD l n k):=j8.out.grown bI.out (by decide) (fun q hq S=>(A.block q (by simp;omega) S).trans (Below.heap_alloc w2 _ q hq)) kn
    exact jz.kept fun g C bj=>dg.block g bj (fun D=>by
     have e2:g=w.heap.size+1+1:=by injection D
     omega)
   ·rw[MJ l k av c rW.out Ib.out du.out]
    refine bx.out m v' k (fun q hq G h2=>?_) ?_ ?_ ?_ cw (by omega)
    ·rw[dg.block q (by have:=A.size;simp at this;omega) h2,A.block q (by simp;omega) G]
     exact(Below.heap_alloc w2 _ q (by omega)).trans (nO.out q hq)
    ·have:=A.size
     simp at this;omega
    ·exact T.of_block fun g C=>dg.block g (T.lt g C).2 (fun D=>by
      have e2:g=w.heap.size+1+1:=by injection D
      have:=(T.lt g C).1
      omega)
    rcases cf with G|G
    ·exact .inl G
    exact .inr ⟨_,G,by simp;omega⟩
   refine ak.grown (ak.grown (by(repeat (first|assumption|refine ak.drew ?_|refine ak.drewN ?_ _|refine ak.alloc ?_ _|refine ak.setCell ?_ (by first|assumption|(simp<;>omega)|omega) _))) A (fun q hq=>.inr ?_)) dg (fun q hq=>.inl ?_)
   ·have:=(dD.out q hq).1
    have:=vU.out;omega
   injection hq with hq
   exact .inr hq.symm
  have hY:(c.kind==0)=false:=by simpa using aq
  have Ib:=kH aq;clear aq;by_cases b5:c.kind=1
  ·have eb:(c.kind==1)=true:=by simpa using b5
   have zD:=kH b5;clear b5;go_wp2_with fail
   refine(La c.b n w.heap.size _ (by go_simp)).mono ?_;rintro e w2 ⟨rfl,rfl⟩;cases dj:Cc n c.b
   ·go_wp2_with fail
    go_ret3
    exact BQ rW.out (by simp[qz,zD.out,dj]) (by(repeat first|exact .refl _ _|assumption|refine .trans ?_ (.mono (by assumption) ?_)|refine .alloc ?_ ?_ _|refine .setCell ?_ ?_ _|refine .drew ?_|refine aL ?_ _|omega|(simp<;>omega)))
   have vP:0<=c.a/\c.a<(n:Int):=by simp[Cc]at bt;omega
   have hO:0<=c.b/\c.b<(n:Int):=by simp[Cc]at dj;omega
   obtain⟨k3,k4⟩:=vP;obtain⟨k5,lF⟩:=hO;have ja:=kH bt;have jb:=kH dj;have lP:(bW l k c.a.toNat).length<=200000:=by have:=zS l c.a.toNat k;omega
   obtain⟨x,NK,lj,ku,fW,aE⟩:=HE.out.at (nU l n k c.a.toNat (by omega));have cS:∀g,x.ownBlock=some g->w.heap.size+4<=g/\g<wr.heap.size:=fun g C=>fW.lt g C
   have gC:=kH fW;have Ej:=kH aE;have BG:=kH cS;clear fW aE cS ht hy hD hF hG hH hI hJ vw bt dj;go_wp2_with fail
   refine dF (fun w'=>w'.cell? ⟨w.heap.size+1+1+1,1,none⟩=some (.slice (some ⟨w.heap.size+1,0,none⟩) n n)/\w'.cell? ⟨wr.heap.size,1,none⟩=some (.int .i64 c.a)/\w'.cell? ⟨wr.heap.size,2,none⟩=some (.int .i64 c.b)/\w'.cell? ⟨w.heap.size+1,c.a.toNat,none⟩=some x) [17] [true,true,true,true,true,true,true,true,true,true,true,true,true,true,false,false,true,false] (by kernel_rfl) (by kernel_rfl) rfl (by kernel_rfl) ?_;generalize au:wr.alloc (.cells #[.int .i64 c.kind,.int .i64 c.a,.int .i64 c.b,.int .i64 c.tk,.int .i64 c.tl,.string c.tr,.int .i64 c.at_,.int .i64 c.end_] 110)=W1
   have c7:W1.heap.size=wr.heap.size+1:=by rw[<- au];simp
   have ej:∀g o,g<wr.heap.size->W1.cell? ⟨g,o,none⟩=wr.cell? ⟨g,o,none⟩:=fun g o C=>by rw[<- au];exact World.cell?_alloc_lt _ _ _ C
   have c6:∀g o,g<wr.heap.size->W1.frozen? ⟨g,o,none⟩=wr.frozen? ⟨g,o,none⟩:=fun g o C=>by rw[<- au];exact World.frozen?_of_block (Below.heap_alloc _ _ _ C)
   have eo:∀g,g<wr.heap.size->W1.heap[g]? =wr.heap[g]? :=fun g C=>by rw[<- au];exact Below.heap_alloc _ _ _ C
   have hK:ah W1 wr.heap.size 110 #[.int .i64 c.kind,.int .i64 c.a,.int .i64 c.b,.int .i64 c.tk,.int .i64 c.tl,.string c.tr,.int .i64 c.at_,.int .i64 c.end_]:=by rw[<- au];exact ah.new _ _ _
   have uB:=kH hK;clear hK;have Ws:W1.cell? ⟨wr.heap.size,1,none⟩=some (.int .i64 c.a):=by rw[<- au];simp
   have Wq:W1.cell? ⟨wr.heap.size,2,none⟩=some (.int .i64 c.b):=by rw[<- au];simp
   have Wi:W1.cell? ⟨w.heap.size+1+1+1,1,none⟩=some (.slice (some ⟨w.heap.size+1,0,none⟩) n n):=(ej _ _ az).trans ax;have Wh:W1.cell? ⟨w.heap.size+1,c.a.toNat,none⟩=some x:=(ej _ _ dm).trans NK;have c5:ak (fun g=>g=w.heap.size+1\/g=w.heap.size+1+1) W0 W1:=by rw[<- au];exact hS.alloc _
   have Y:wr.heap.size<W1.heap.size:=by omega
   have cV:w.heap.size+1+1+1<W1.heap.size:=by omega
   have wN:w.heap.size+1<W1.heap.size:=by omega
   have jv:=gC.out.of_block (w':=W1) fun g C=>eo g (gC.out.lt g C).2
   have ee:=kH jv;clear jv;have bX:=kH c7;have eg:=kH eo;have bT:=kH c6;clear au c7 ej eo c6 ax ay NK;have bn:W1.drew.cell? ⟨w.heap.size+1+1+1,1,none⟩=some (.slice (some ⟨w.heap.size+1,0,none⟩) n n)/\W1.drew.cell? ⟨wr.heap.size,1,none⟩=some (.int .i64 c.a)/\W1.drew.cell? ⟨wr.heap.size,2,none⟩=some (.int .i64 c.b)/\W1.drew.cell? ⟨w.heap.size+1,c.a.toNat,none⟩=some x:=⟨Wi,Ws,Wq,Wh⟩
   iterate 14(refine eD rfl bn (by intro w' ar;obtain⟨GQ,GN,GM,JP⟩:=ar;go_simp;rfl) ?_;simp only[Act.put,sA,sZ,sC])
   refine eu (w':=W1.drew.alloc (.cells #[.int .i64 (k:Int),.int .i64 c.b] 157)) rfl (by go_simp;rfl) ?_ ?_
   ·exact fun _=>⟨by go_simp,by go_simp,by go_simp,by go_simp⟩
   simp only[Act.put,sA,sZ,sC];refine jR rfl (fG _ (.tmp 93) (.tmp 98) _ rfl (w.heap.size+4) 157 j0 _ 2 16 Tryz.underlying155 hW iJ iM iS rfl x (bW l k c.a.toNat).length ((bW l k c.a.toNat).flatMap j5) rfl (by have YF:=ee.out;(repeat (first|assumption|refine aG.drew ?_|refine aG.drewN ?_ _|refine aG.alloc ?_ _|refine aG.setCell ?_ (by assumption) _))) ⟨W1.heap.size,0,none⟩ 1 1 [.int .i64 (k:Int),.int .i64 c.b] rfl rfl (Qp _ _ _ _ (by go_simp) (by go_simp)) (by simp[Value.oneCell']) (by simp only[maxLen];omega) (by omega) (by simp;omega) ?_);intro v' w3 T A cf
   have wT:∀g o,g<W1.heap.size->x.ownBlock≠some g->w3.cell? ⟨g,o,none⟩=W1.cell? ⟨g,o,none⟩:=fun g o C S=>by
    rw[A.cell_far _ (by simp;omega) (fun D=>S D.symm)];exact World.cell?_alloc_lt W1 _ ⟨g,o,none⟩ C
   refine⟨fun _=>⟨(wT _ _ cV (fun D=>by have:=(BG.out _ D).1;omega)).trans Wi,(wT _ _ Y (fun D=>by have:=(BG.out _ D).2;omega)).trans Ws,(wT _ _ Y (fun D=>by have:=(BG.out _ D).2;omega)).trans Wq,(wT _ _ wN (fun D=>by have:=(BG.out _ D).1;omega)).trans Wh⟩,?_⟩;simp only[Act.put,sA,sZ,sC];have dQ:w3.cell? ⟨w.heap.size+1+1+1,1,none⟩=some (.slice (some ⟨w.heap.size+1,0,none⟩) n n)/\w3.cell? ⟨wr.heap.size,1,none⟩=some (.int .i64 c.a)/\w3.cell? ⟨wr.heap.size,2,none⟩=some (.int .i64 c.b)/\w3.cell? ⟨w.heap.size+1,c.a.toNat,none⟩=some x:=⟨(wT _ _ cV (fun D=>by have:=(BG.out _ D).1;omega)).trans Wi,(wT _ _ Y (fun D=>by have:=(BG.out _ D).2;omega)).trans Ws,(wT _ _ Y (fun D=>by have:=(BG.out _ D).2;omega)).trans Wq,(wT _ _ wN (fun D=>by have:=(BG.out _ D).1;omega)).trans Wh⟩
   refine eD rfl dQ (by intro w' ar;obtain⟨GQ,GN,GM,JP⟩:=ar;go_simp;rfl) ?_;simp only[Act.put,sA,sZ,sC]
   have eN:w3.frozen? ⟨w.heap.size+1,c.a.toNat,none⟩=false:=by
    rw[A.frozen_far _ (by simp;omega) (fun D=>by have:=(BG.out (w.heap.size+1) D.symm).1;omega)];exact((World.frozen?_of_block (Below.heap_alloc W1 _ _ wN)).trans (bT.out _ _ dm)).trans lj
   obtain⟨vg,J,xN,ld,_,_,_,_,_⟩:=T.form (by omega);subst ld;obtain⟨GQ,GN,GM,JP⟩:=dQ;refine gH (w':=w3.setCell ⟨w.heap.size+1,c.a.toNat,none⟩ (.slice (some ⟨vg,J,none⟩) ((bW l k c.a.toNat).length+1) xN)) rfl (by go_simp) (by simp) ?_;refine gp ?_
   have eL:jW (w3.setCell ⟨w.heap.size+1,c.a.toNat,none⟩ (.slice (some ⟨vg,J,none⟩) ((bW l k c.a.toNat).length+1) xN)) (w.heap.size+4) (w.heap.size+1) ((gD l n k).set c.a.toNat (bW l k c.a.toNat++[⟨k,c.b.toNat⟩])):=by
    refine Ej.out w3 _ ⟨k,c.b.toNat⟩ (fun q hq S=>?_) ?_ ?_ ?_ (by omega)
    ·rw[A.block q (by simp;omega) S]
     exact(Below.heap_alloc W1 _ q (by omega)).trans (eg.out q hq)
    ·have:=A.size
     simp at this;omega
    ·have D:j5 ⟨k,c.b.toNat⟩=[.int .i64 (k:Int),.int .i64 c.b]:=by simp[j5];omega
     rw[D];exact T
    rcases cf with G|G
    ·exact .inl G
    exact .inr ⟨_,G,by simp;omega⟩
   have GR:jJ (w3.setCell ⟨w.heap.size+1,c.a.toNat,none⟩ (.slice (some ⟨vg,J,none⟩) ((bW l k c.a.toNat).length+1) xN)) (w.heap.size+4) (w.heap.size+1+1) (cK l k):=by
    have G:jJ W1 (w.heap.size+4) (w.heap.size+1+1) (cK l k):=HM.out.kept fun g _ C=>eg.out g C
    have h2:jJ w3 (w.heap.size+4) (w.heap.size+1+1) (cK l k):=G.grown ee.out (by decide) (fun q hq S=>(A.block q (by simp;omega) S).trans (Below.heap_alloc W1 _ q hq)) (fun D=>by have:=(BG.out _ D).1;omega);exact h2.kept fun g C _=>Below.heap_setCell _ _ _ _ (by simp;omega)
   have iv:ak (fun g=>g=w.heap.size+1\/g=w.heap.size+1+1) W0 (w3.setCell ⟨w.heap.size+1,c.a.toNat,none⟩ (.slice (some ⟨vg,J,none⟩) ((bW l k c.a.toNat).length+1) xN)):=by
    refine ak.setCell (ak.grown (by(repeat (first|assumption|refine ak.drew ?_|refine ak.drewN ?_ _|refine ak.alloc ?_ _|refine ak.setCell ?_ (by first|assumption|(simp<;>omega)|omega) _))) A (fun q hq=>.inr ?_)) (by simp) _;have:=(BG.out q hq).1;have:=vU.out;omega
   have fu:(w3.setCell ⟨w.heap.size+1,c.a.toNat,none⟩ (.slice (some ⟨vg,J,none⟩) ((bW l k c.a.toNat).length+1) xN)).cell? ⟨w.heap.size+1+1+1,1,none⟩=some (.slice (some ⟨w.heap.size+1,0,none⟩) n n):=by
    rw[World.cell?_setCell_other _ _ _ _ (by simp)];exact GQ
   have fv:(w3.setCell ⟨w.heap.size+1,c.a.toNat,none⟩ (.slice (some ⟨vg,J,none⟩) ((bW l k c.a.toNat).length+1) xN)).cell? ⟨wr.heap.size,1,none⟩=some (.int .i64 c.a):=by
    rw[World.cell?_setCell_other _ _ _ _ (fun D=>by injection D with D;omega)];exact GN
   have fw:(w3.setCell ⟨w.heap.size+1,c.a.toNat,none⟩ (.slice (some ⟨vg,J,none⟩) ((bW l k c.a.toNat).length+1) xN)).cell? ⟨wr.heap.size,2,none⟩=some (.int .i64 c.b):=by
    rw[World.cell?_setCell_other _ _ _ _ (fun D=>by injection D with D;omega)];exact GM
   have Wp:ah (w3.setCell ⟨w.heap.size+1,c.a.toNat,none⟩ (.slice (some ⟨vg,J,none⟩) ((bW l k c.a.toNat).length+1) xN)) wr.heap.size 110 #[.int .i64 c.kind,.int .i64 c.a,.int .i64 c.b,.int .i64 c.tk,.int .i64 c.tl,.string c.tr,.int .i64 c.at_,.int .i64 c.end_]:=by
    refine ah.far (ah.grown (by have lR:=uB.out;(repeat (first|assumption|refine ah.drew ?_|refine ah.drewN ?_ _|refine ah.alloc ?_ _|refine ah.far ?_ (by first|assumption|omega|(simp;omega)) _))) A (fun D=>?_)) (by simp;omega) _;have:=(BG.out _ D.symm).2;omega
   have dk:wr.heap.size+1<=(w3.setCell ⟨w.heap.size+1,c.a.toNat,none⟩ (.slice (some ⟨vg,J,none⟩) ((bW l k c.a.toNat).length+1) xN)).heap.size:=by
    have G:=A.size;have h2:=bX.out;simp at G⊢;omega
   go_wp2_with fail
   generalize lf:w3.setCell ⟨w.heap.size+1,c.a.toNat,none⟩ (.slice (some ⟨vg,J,none⟩) ((bW l k c.a.toNat).length+1) xN)=m at eL GR iv fu fv fw dk Wp⊢
   have hs:c.b.toNat<((gD l n k).set c.a.toNat (bW l k c.a.toNat++[⟨k,c.b.toNat⟩])).length:=by rw[List.length_set,uq];omega
   obtain⟨b9,Wj⟩:∃b9,((gD l n k).set c.a.toNat (bW l k c.a.toNat++[⟨k,c.b.toNat⟩]))[c.b.toNat]? =some b9:=⟨_,ace hs⟩
   have kf:b9.length<=200001:=by have:=M4 l n k _ _ _ _ _ (zS l c.a.toNat k) (by omega) Wj;omega
   have b3:=Rm l n k c.a.toNat c.b.toNat c rW.out zD.out (by omega) (by omega) (by omega) (by omega) _ b9 (nU l n k c.a.toNat (by omega)) Wj;obtain⟨y,TY,lk,hU,dr,Zg⟩:=eL.at Wj;have cT:∀g,y.ownBlock=some g->w.heap.size+4<=g/\g<m.heap.size:=fun g C=>dr.lt g C
   have cU:y.ownBlock≠some wr.heap.size:=fun D=>by
    rcases dr.2 with⟨rfl,_⟩| ⟨g1,Qm,Kb,Hd,rfl,_,cn,_⟩
    ·cases D
    have e2:g1=wr.heap.size:=by simpa [Value.ownBlock] using D
    subst e2;unfold ah at Wp;rw[Wp]at cn;simp at cn
   have gE:=kH dr;have dx:=kH Zg;have Zv:=kH cT;have j9:=kH b3;have jd:=kH GR;clear dr Zg cT b3 GR eL Wj hs lf Wp uB GQ GN GM JP wT T A cf eN Wi Ws Wq Wh c5 bn Y cV wN ee bX eg bT;have Y:wr.heap.size<m.heap.size:=by omega
   have cV:w.heap.size+1+1+1<m.heap.size:=by omega
   have wN:w.heap.size+1<m.heap.size:=by omega
   refine dF (fun w'=>w'.cell? ⟨w.heap.size+1+1+1,1,none⟩=some (.slice (some ⟨w.heap.size+1,0,none⟩) n n)/\w'.cell? ⟨wr.heap.size,1,none⟩=some (.int .i64 c.a)/\w'.cell? ⟨wr.heap.size,2,none⟩=some (.int .i64 c.b)/\w'.cell? ⟨w.heap.size+1,c.b.toNat,none⟩=some y) [17] [true,true,true,true,true,true,true,true,true,true,true,true,true,true,false,false,true,false] (by kernel_rfl) (by kernel_rfl) rfl (by kernel_rfl) ?_;have bn:m.drew.cell? ⟨w.heap.size+1+1+1,1,none⟩=some (.slice (some ⟨w.heap.size+1,0,none⟩) n n)/\m.drew.cell? ⟨wr.heap.size,1,none⟩=some (.int .i64 c.a)/\m.drew.cell? ⟨wr.heap.size,2,none⟩=some (.int .i64 c.b)/\m.drew.cell? ⟨w.heap.size+1,c.b.toNat,none⟩=some y:=⟨fu,fv,fw,TY⟩
   iterate 14(refine eD rfl bn (by intro w' ar;obtain⟨GQ,GN,GM,JP⟩:=ar;go_simp;rfl) ?_;simp only[Act.put,sA,sZ,sC])
   refine eu (w':=m.drew.alloc (.cells #[.int .i64 (k:Int),.int .i64 c.a] 157)) rfl (by go_simp;rfl) ?_ ?_
   ·exact fun _=>⟨by go_simp,by go_simp,by go_simp,by go_simp⟩
   simp only[Act.put,sA,sZ,sC];refine jR rfl (fG _ (.tmp 110) (.tmp 115) _ rfl (w.heap.size+4) 157 j0 _ 2 16 Tryz.underlying155 hW iJ iM iS rfl y b9.length (b9.flatMap j5) rfl (by have YF:=gE.out;(repeat (first|assumption|refine aG.drew ?_|refine aG.drewN ?_ _|refine aG.alloc ?_ _|refine aG.setCell ?_ (by assumption) _))) ⟨m.heap.size,0,none⟩ 1 1 [.int .i64 (k:Int),.int .i64 c.a] rfl rfl (Qp _ _ _ _ (by go_simp) (by go_simp)) (by simp[Value.oneCell']) (by simp only[maxLen];omega) (by omega) (by simp;omega) ?_);intro v2 w5 b8 DU eK
   have wT:∀g o,g<m.heap.size->y.ownBlock≠some g->w5.cell? ⟨g,o,none⟩=m.cell? ⟨g,o,none⟩:=fun g o C S=>by
    rw[DU.cell_far _ (by simp;omega) (fun D=>S D.symm)];exact World.cell?_alloc_lt m _ ⟨g,o,none⟩ C
   have dQ:w5.cell? ⟨w.heap.size+1+1+1,1,none⟩=some (.slice (some ⟨w.heap.size+1,0,none⟩) n n)/\w5.cell? ⟨wr.heap.size,1,none⟩=some (.int .i64 c.a)/\w5.cell? ⟨wr.heap.size,2,none⟩=some (.int .i64 c.b)/\w5.cell? ⟨w.heap.size+1,c.b.toNat,none⟩=some y:=⟨(wT _ _ cV (fun D=>by have:=(Zv.out _ D).1;omega)).trans fu,(wT _ _ Y cU).trans fv,(wT _ _ Y cU).trans fw,(wT _ _ wN (fun D=>by have:=(Zv.out _ D).1;omega)).trans TY⟩
   refine⟨fun _=>dQ,?_⟩;simp only[Act.put,sA,sZ,sC];refine eD rfl dQ (by intro w' ar;obtain⟨GQ,GN,GM,JP⟩:=ar;go_simp;rfl) ?_;simp only[Act.put,sA,sZ,sC]
   have km:w5.frozen? ⟨w.heap.size+1,c.b.toNat,none⟩=false:=by
    rw[DU.frozen_far _ (by simp;omega) (fun D=>by have:=(Zv.out (w.heap.size+1) D.symm).1;omega)];exact(World.frozen?_of_block (Below.heap_alloc m _ _ wN)).trans lk
   obtain⟨lB,cX,cW,fQ,_,_,_,_,_⟩:=b8.form (by omega);subst fQ;obtain⟨GQ,GN,GM,JP⟩:=dQ;refine gH (w':=w5.setCell ⟨w.heap.size+1,c.b.toNat,none⟩ (.slice (some ⟨lB,cX,none⟩) (b9.length+1) cW)) rfl (by go_simp) (by simp) ?_;refine gp ?_;clear GQ GN GM JP;go_wp2_with fail
   go_roundg (gk - 1)
   case measure=>have:=HK.out;omega
   refine⟨k+1,by have:=HK.out;omega,by go_num,fun i c' hi bb=>?_,?_,?_,?_⟩
   ·by_cases eV:i=k
    ·subst eV
     rw[rW.out]at bb;cases bb
     simp[qz,ja.out,zD.out,jb.out]
    exact da.out i c' (by omega) bb
   ·rw[<- j9.out]
    refine dx.out w5 _ ⟨k,c.a.toNat⟩ (fun q hq S=>?_) ?_ ?_ ?_ (by omega)
    ·rw[DU.block q (by simp;omega) S]
     exact Below.heap_alloc m _ q (by omega)
    ·have:=DU.size
     simp at this;omega
    ·have D:j5 ⟨k,c.a.toNat⟩=[.int .i64 (k:Int),.int .i64 c.a]:=by simp[j5];omega
     rw[D];exact b8
    rcases eK with G|G
    ·exact .inl G
    exact .inr ⟨_,G,by simp⟩
   ·rw[KY l k c rW.out (by rw[zD.out];omega)]
    have h2:jJ w5 (w.heap.size+4) (w.heap.size+1+1) (cK l k):=jd.out.grown gE.out (by decide) (fun q hq S=>(DU.block q (by simp;omega) S).trans (Below.heap_alloc m _ q hq)) (fun D=>by have:=(Zv.out _ D).1;omega);exact h2.kept fun g C _=>Below.heap_setCell _ _ _ _ (by simp;omega)
   refine ak.setCell (ak.grown (by(repeat (first|assumption|refine ak.drew ?_|refine ak.drewN ?_ _|refine ak.alloc ?_ _|refine ak.setCell ?_ (by first|assumption|(simp<;>omega)|omega) _))) DU (fun q hq=>.inr ?_)) (by simp) _;have:=(Zv.out q hq).1;have:=vU.out;omega
  have eb:(c.kind==1)=false:=by simpa using b5
  have zD:=kH b5;clear b5;go_wp2_with fail
  go_ret3
  exact BQ rW.out (by simp[qz,hY,eb]) (by(repeat first|exact .refl _ _|assumption|refine .trans ?_ (.mono (by assumption) ?_)|refine .alloc ?_ ?_ _|refine .setCell ?_ ?_ _|refine .drew ?_|refine aL ?_ _|omega|(simp<;>omega)))
 have fa:k=nl:=by omega
 have ba:l.all (qz n)=true:=by
  rw[List.all_eq_true];intro c hc;obtain⟨i,hi,rfl⟩:=List.getElem_of_mem hc;exact da.out i _ (by rw[fa,<- Sd.out];exact hi) (ace hi)
 have e9:∀c∈l,qz n c=true:=List.all_eq_true.1 ba
 have gQ:pJ wr wr.heap.size AL (some ⟨w.heap.size+1,0,none⟩) (w.heap.size+1+1) l (gD l n l.length) (cK l l.length):=by
  have G:=HE.out.read;have h2:=HM.out.read;rw[fa,<- Sd.out]at G h2;exact⟨(HL.out.below dd (ab9 _)).mono dd.size,G,h2⟩
 have eA:=graphOk l n e9 (by omega) (by rw[Sd.out];omega)
 have cx:∀v i,i∈cK l l.length v->∃c,l[i]? =some c/\c.a=(v:Int)/\v<n:=fun v i hi=>by
  obtain⟨c,hc,_,_,ha⟩:=(FK l l.length v i).1 hi;have G:=e9 c (acn hc);simp[qz,Cc]at G;exact⟨c,hc,ha,by omega⟩
 have b7:∀v,(cK l l.length v).length<=nl:=fun v=>by
  have:=FL l l.length v;have:=Sd.out;omega
 have e0:=kH (fun q:Nat=>qG l n q);have iE:=kH ba;have cY:=kH gQ;have dH:=kH cx;have ZE:=kH b7;clear HE HM da e9 gQ cx b7 fa ba HK;generalize gD l n l.length=E at*
 generalize cK l l.length=M at*
 rw[Sd.out]at eA;have ZI:=kH eA;clear eA;obtain⟨I,rfl⟩:∃I:World,I=wr:=⟨_,rfl⟩
 obtain⟨go,rfl⟩:∃go:Nat,go=gk:=⟨_,rfl⟩
 have l5:w.heap.size<I.heap.size:=by omega
 have az:w.heap.size+1+1+1<I.heap.size:=by omega
 have fi:=Ef.out;have fh:=iY.out;go_wp2_with fail
 clear fi fh ax ay vw;generalize c8:(I.alloc (.cells ((List.replicate n gI).flatMap iy).toArray 108)).alloc (.cells (Array.replicate n (.bool false)) 4)=W2
 have ca:W2.heap.size=I.heap.size+1+1:=by rw[<- c8];simp
 have eJ:Below I.heap.size I W2:=by rw[<- c8];(repeat first|exact .refl _ _|assumption|refine .trans ?_ (.mono (by assumption) ?_)|refine .alloc ?_ ?_ _|refine .setCell ?_ ?_ _|refine .drew ?_|refine aL ?_ _|omega|(simp<;>omega))
 have cb:lC W2 I.heap.size (bS l n 0).out:=by rw[<- c8];exact(ah.new _ _ _).alloc _
 have c9:jX W2 (I.heap.size+1) (bS l n 0).seen:=by
  rw[<- c8];have:=ah.new (I.alloc (.cells ((List.replicate n gI).flatMap iy).toArray 108)) 4 (Array.replicate n (.bool false));simpa [jX,bS] using this
 have ef:=kH ca;have e5:=kH cb;have e4:=kH c9;clear ca cb c9 c8;go_loopg [12,124] n (fun gk lu gb wr=> ∃K:Nat,K+gk=n/\gb= .int .i64 K/\lC wr I.heap.size (bS l n K).out/\jX wr (I.heap.size+1) (bS l n K).seen/\mi wr (I.heap.size+2) lu (bS l n K).chains/\ak (fun g=>g=I.heap.size\/g=I.heap.size+1) W2 wr)
 case atStart=>exact⟨0,by omega,rfl,e5.out,e4.out,mi.nil _ _,ak.refl _ _⟩
 obtain⟨K,hX,rfl,hT,hB,hC,bo⟩:=hrel;have ky:K<=n:=by omega
 have Eh:=kH hX;have HT:=kH hT;have HB:=kH hB;have HC:=kH hC;clear hX hT hB hC;have m6:I.heap.size+2<=wr.heap.size:=by have:=bo.size;have:=ef.out;omega
 have Rb:Below I.heap.size I wr:=eJ.trans (bo.toBelow (by have:=ef.out;omega) (by intro g C;omega));have gS:=cY.out.later Rb;have Sj:=kH gS;have b0:=(gA.out.since hS (by omega)).below Rb az;have eP:=b0.cell 0;have ax:=b0.cell 1;have ay:=b0.cell 2;simp only[acj,ach,aci]at eP ax ay;clear gS b0;have fL:I.heap.size<wr.heap.size:=by omega
 have fN:I.heap.size+1<wr.heap.size:=by omega
 have MP:w.heap.size+1+1+1<wr.heap.size:=by omega
 obtain⟨ie,ij,O⟩:=OM l n K;have nQ:=kH ie;have gr:=kH ij;clear ie ij;by_cases ff:K<n
 ·have hQ:=HB.out.cell (i:=K) (by rw[gr.out];exact ff)
  obtain⟨sn, fI⟩:=ag ((bS l n K).seen.getD K false);rw[fI]at hQ;have jK:=kH fI;clear fI;have aq:(K:Int)<(n:Int):=by omega
  cases sn
  ·go_wp2_with fail
   refine(zT _ _ _ n n E (some ⟨wr.heap.size,0,none⟩) 1 1 [K] _ (Sj.out.later (ai _ _)).Iy ZI.out.en ZI.out.G8 ZI.out.len (by exact TM _ _ _ _ (by simp) (by simp)) rfl (by omega) (by simp;omega) (by omega) (by omega)).mono ?_;rintro e wd ⟨gd,rfl,ko,eC,ho⟩;have ad:Below wr.heap.size wr wd:=(ai _ _).trans (ho.mono (by simp));simp only[World.size_alloc]at ko;have gR:=Sj.out.later ad;have lE:=kH gR;have hR:(ji E n [K]).length=n:=(xg E n [K] ZI.out.G8 (by simp;omega)).len;have c4:Below I.heap.size I wd:=Rb.trans (ad.mono (by omega));have c2:jX wd (I.heap.size+1) (bS l n K).seen:=ah.below HB.out ad fN;have h4:lC wd I.heap.size (bS l n K).out:=ah.below HT.out ad fL;have gO:=HC.out.since (ak.below (ak.refl (fun _=>False) wr) ad) (by intro g h;cases h);have eI:=bo.below ad;have gn:=kH eC;have Jt:=kH hR;have dy:=kH c2;have jn:=kH h4;have j7:=kH gO;have m5:wr.heap.size<=wd.heap.size:=ad.size;have eS:gd<wd.heap.size:=eC.lt;clear gR eC hR c2 h4 gO ho hQ bo Sj HB HT HC Rb;have eQ:wd.cell? ⟨w.heap.size+1+1+1,0,none⟩=_:=(ad.cell (p:=⟨w.heap.size+1+1+1,0,none⟩) MP).trans eP;have eR:wd.cell? ⟨w.heap.size+1+1+1,1,none⟩=_:=(ad.cell (p:=⟨w.heap.size+1+1+1,1,none⟩) MP).trans ax;have cp:wd.cell? ⟨w.heap.size+1+1+1,2,none⟩=_:=(ad.cell (p:=⟨w.heap.size+1+1+1,2,none⟩) MP).trans ay;clear eP ax ay ad;obtain⟨d, hd⟩:=ag (ji E n [K]);rw[hd]at gn Jt;have HD:=kH hd;clear hd;obtain⟨wv,rfl⟩:∃wv:World,wv=wr:=⟨_,rfl⟩
   obtain⟨gv,rfl⟩:∃gv:Nat,gv=gk:=⟨_,rfl⟩
   go_wp2_with fail
   go_loopg [15,16,136] n (fun gk lv lx gg wr=> ∃q:Nat,q+gk=n/\gg= .int .i64 q/\L3 wd (I.heap.size+1) (bS l n K).seen d M q lv lx wr)
   case atStart=>exact⟨0,by omega,rfl,L3.start _ _ dy.out⟩
   obtain⟨q,hq,rfl,h3⟩:=hrel;have m3:q<=n:=by omega
   have HQ:=kH hq;have H3:=kH h3;clear hq;have bm:wr.cell? ⟨w.heap.size+1+1+1,2,none⟩=_:=(World.cell?_of_block (h3.since.block (w.heap.size+1+1+1) (by omega) (by omega))).trans cp;have m7:wd.heap.size<=wr.heap.size:=h3.since.size;have eE:=gn.out.keep (h3.since.block gd eS (by omega));have Wy:Below I.heap.size I wr:=c4.trans (h3.since.toBelow (by omega) (by intro g C;omega));by_cases cu:q<n
   ·
    have k6:=eE.cell (i:=q) (by rw[Jt.out];exact cu);have FO:(q:Int)<(n:Int):=by omega
    obtain⟨dq, eM⟩:=ag (d.getD q 0);rw[eM]at k6;have gj:=kH eM;clear eM eE;have dm:gd<wr.heap.size:=by omega
    by_cases kb:0<=dq
    ·have lW:=h3.seen.frozen q
     have hO:=h3.seen.cell (i:=q) (by rw[wE,gr.out];exact cu);obtain⟨_,f,hf,Ud⟩:=(cY.out.below Wy (ab9 _)).marks;obtain⟨AM,cM,gJ,iu⟩:=Ud q
     have ct:∀w':World,iQ w' (w.heap.size+1+1) f->(Instr.lookup 72 (.map (some (w.heap.size+1+1))) (.int .i64 (q:Int)) false).run Tryz.prog w'= .ok (.slice AM (M q).length cM) w':=fun w' h'=>by
      rw[<- gJ];exact xR (P:=Tryz.prog) (t:=72) (kt:=3) (et:=28) Tryz.underlying72 Tryz.underlying3 Gc h' q
     have Sg:=kH ct;have HF:=kH hf;have jj:=kH iu;have cq:=fun g C=>h3.cls.lt g C
     have MU:=fun g C=>h3.mks.lt g C
     have Xf:=kH cq;have Xe:=kH MU;have cr:(bV d q).length<=5000:=by have:=yP d q;omega
     have hZ:((bV d q).flatMap M).length<=1000000:=by
      have G:=Ri M nl ZE.out (bV d q);have h2:=yP d q;have h3:(bV d q).length*nl<=5000*200:=Nat.mul_le_mul cr im;omega
     have ia:(M q).length<=200:=by have:=ZE.out q;omega
     clear h3 ct hf iu gJ Ud cq MU;go_wp2_with fail
     have fp:u15.ownBlock≠some (w.heap.size+1+1):=fun e=>by have:=(Xf.out _ e).1;omega
     have fr:u16.ownBlock≠some (w.heap.size+1+1):=fun e=>by have:=(Xe.out _ e).1;omega
     have fm:u15.ownBlock≠some (w.heap.size+1+1+1):=fun e=>by have:=(Xf.out _ e).1;omega
     have fo:u16.ownBlock≠some (w.heap.size+1+1+1):=fun e=>by have:=(Xe.out _ e).1;omega
     have fs:u15.ownBlock≠some (I.heap.size+1):=fun e=>by have:=(Xf.out _ e).1;omega
     have ft:u16.ownBlock≠some (I.heap.size+1):=fun e=>by have:=(Xe.out _ e).1;omega
     have cc:u16.ownBlock=none\/u16.ownBlock≠u15.ownBlock:=by
      cases ev:u16.ownBlock with
      | none=>exact .inl rfl
      | some g=>exact .inr fun e=>H3.out.apart g e.symm ev
     have fE:∀w':World,Below I.heap.size wr w'->w'.cell? ⟨w.heap.size+1+1+1,2,none⟩=some (.map (some (w.heap.size+1+1)))/\(Instr.lookup 72 (.map (some (w.heap.size+1+1))) (.int .i64 (q:Int)) false).run Tryz.prog w'= .ok (.slice AM (M q).length cM) w':=fun w' hb=>
      ⟨(hb.cell (p:=⟨w.heap.size+1+1+1,2,none⟩) az).trans bm,Sg.out _ (HF.out.below hb (by omega))⟩
     have bP:=kH fE;have c0:∀g,u15.ownBlock=some g->I.heap.size<=g:=fun g C=>by have:=(Xf.out g C).1;omega
     have c1:∀g,u16.ownBlock=some g->I.heap.size<=g:=fun g C=>by have:=(Xe.out g C).1;omega
     have dv:=kH c0;have dw:=kH c1;have iX:=kH cc;clear fE c0 c1 cc;go_region_held3 (fun w'=>w'.cell? ⟨w.heap.size+1+1+1,2,none⟩=some (.map (some (w.heap.size+1+1)))/\(Instr.lookup 72 (.map (some (w.heap.size+1+1))) (.int .i64 (q:Int)) false).run Tryz.prog w'= .ok (.slice AM (M q).length cM) w') ((refine bP.out _ ?_;(repeat first|exact .refl _ _|assumption|refine .trans ?_ (.mono (by assumption) ?_)|refine .alloc ?_ ?_ _|refine .setCell ?_ ?_ _|refine .drew ?_|refine aL ?_ _|omega|(simp<;>omega)))) (first|(refine Fx (o:=⟨some 149,_,_,_,_,_⟩) _ (by rfl) (.tmp 146) (.tmp 148) _ (by rfl) wd.heap.size 3 i0 _ 1 8 Tryz.underlying28 eT fX fY Y (by rfl) u15 (bV d q).length (bL ((bV d q).map fun x:Nat=>(x:Int))) (by rfl) (by have YF:=H3.out.cls;(repeat (first|assumption|refine aG.drew ?_|refine aG.drewN ?_ _|refine aG.alloc ?_ _|refine aG.setCell ?_ (by assumption) _))) ⟨wr.heap.size,0,none⟩ 1 1 [.int .i64 (q:Int)] (by rfl) (by rfl) (lU _ _ _ (by go_simp)) (by simp[Value.oneCell']) (by simp only[maxLen];omega) (by omega) (by simp;omega) ?_;intro v1 w1 cF a1 js;have gM:Below I.heap.size wr w1:=(Below.grown (B:=I.heap.size) (by(repeat first|exact .refl _ _|assumption|refine .trans ?_ (.mono (by assumption) ?_)|refine .alloc ?_ ?_ _|refine .setCell ?_ ?_ _|refine .drew ?_|refine aL ?_ _|omega|(simp<;>omega))) a1 (by simp;omega) dv.out);have ga:=a1.size;simp at ga)|(refine OL (o:=⟨some 155,_,_,_,_,_⟩) _ (by rfl) (.tmp 150) (.tmp 154) _ (by rfl) wd.heap.size 3 i0 _ 1 8 Tryz.underlying28 eT fX fY Y (by rfl) (by omega) u16 ((bV d q).flatMap M).length (bL (((bV d q).flatMap M).map fun x:Nat=>(x:Int))) (by rfl) (aG.kept (by have YF:=H3.out.mks;(repeat (first|assumption|refine aG.drew ?_|refine aG.drewN ?_ _|refine aG.alloc ?_ _|refine aG.setCell ?_ (by assumption) _))) a1 iX.out) AM (M q).length cM (bL ((M q).map fun x:Nat=>(x:Int))) (by rfl) (by simp) (aS.news (aS.below jj.out gM (ab9 _))) (ivs_one _) (by simp only[maxLen];omega) (by omega) (by omega) ?_;intro v2 w2 cG al jr;have lO:Below I.heap.size wr w2:=gM.grown al (by omega) dw.out))
     all_goals
      go_wp2_with fail
      go_roundg (gk - 1)
      case measure=>have:=HQ.out;omega
      refine⟨q+1,by have:=HQ.out;omega,by go_num,H3.out.yes (by rw[gj.out];exact kb) (by omega) ?_ ?_ ?_ cF a1 js cG al jr⟩
      ·have G:=(H3.out.seen).set q true
       unfold jX at G⊢;(repeat (first|assumption|refine ah.drew ?_|refine ah.drewN ?_ _|refine ah.alloc ?_ _|refine ah.far ?_ (by first|assumption|omega|(simp;omega)) _))
      ·have G:=H3.out.since
       (repeat (first|assumption|refine ak.drew ?_|refine ak.drewN ?_ _|refine ak.alloc ?_ _|refine ak.setCell ?_ (by first|assumption|(simp<;>omega)|omega) _))
      simp
    clear h3;go_wp2_with fail
    go_roundg (gk - 1)
    case measure=>have:=HQ.out;omega
    exact⟨q+1,by have:=HQ.out;omega,by go_num,H3.out.no (by rw[gj.out];omega)⟩
   have FO:n=q:=by omega
   subst FO;clear h3 bm eE
   have cy:((bV d n).flatMap M).length<=1000000:=by
    have G:=Ri M nl ZE.out (bV d n);have h2:=yP d n;have h3:(bV d n).length*nl<=5000*200:=Nat.mul_le_mul (by omega) im;omega
   have VU:=H3.out.mks;have aw:=H3.out.cls;have cd:=H3.out.apart;have cH:=H3.out.seen;have cI:=H3.out.since;clear H3;obtain⟨N, hN⟩:=ag (((bV d n).flatMap M).length);rw[hN]at VU cy;obtain⟨NC, de⟩:=ag ((bV d n).length);have jE:NC<=n:=by rw[<- de];exact yP d n
   rw[de]at aw
   have cz:(iB M (bV d n)).length=N:=by
    unfold iB;rw[sortIK,List.length_map];exact hN
   obtain⟨iV,ju,ev,-,-⟩:=VU.shape;subst ev;obtain⟨dt,ep,Uj,-,-⟩:=aw.shape;subst Uj;have eh:=kH VU;have bB:=kH aw;have bw:=kH cd;have bM:=kH cH;have bN:=kH cI;have UC:=kH de;have Xd:=kH cz;clear hN de VU aw cd cH cI cz;go_wp2_with fail
   refine(RF _ wd.heap.size _ _ _ eh.out cy).mono ?_;rintro e X ⟨rfl,cC,bc⟩;have MU:=fun g C=>eh.out.lt g C
   have cc:(Value.slice dt NC ep).ownBlock=none\/(Value.slice dt NC ep).ownBlock≠(Value.slice iV N ju).ownBlock:=by
    cases Uj:(Value.slice dt NC ep).ownBlock with
    | none=>exact .inl rfl
    | some g=>exact .inr fun e=>bw.out g Uj e.symm
   have hP:=bB.out.kept bc cc;have Bo:jX X (I.heap.size+1) (mU true (bS l n K).seen (bV d n)):=ah.grown bM.out bc (fun e=>by have:=(MU _ e.symm).1;omega);have cJ:ak (fun g=>g=I.heap.size+1) wd X:=bN.out.grown bc (fun g C=>.inr (MU g C).1);have kp:=cJ.size;clear bc MU cc eh bB bw bM bN;replace cC:aG X wd.heap.size 3 1 _ _ (bL (iB M (bV d n))):=cC
   have ea:∀z∈iB M (bV d n),∃(i s0:Nat) (c:bD),z=(i:Int)/\l[i]? =some c/\c.a=(s0:Int)/\s0<n:=fun z hz=>by
    obtain⟨i,v,rfl,_,hi⟩:=X6 hz;obtain⟨c,hc,ha,hv⟩:=dH.out v i hi;exact⟨i,v,c,rfl,hc,ha,hv⟩
   obtain⟨ms, fj⟩:=ag (iB M (bV d n));rw[fj]at cC ea Xd;have dK:=kH ea;have jf:=kH fj;have bG:=Xd;have gw:=kH cC;have tN:=kH hP;have dT:=kH Bo;clear ea fj cC hP Bo Xd;go_wp2_with fail
   generalize dp:X.alloc (.cells #[.int .i64 0,.int .i64 0,.string ⟨#[]⟩] 108)=wt
   have cQ:wt.heap.size=X.heap.size+1:=by rw[<- dp];simp
   have fR:Below X.heap.size X wt:=by rw[<- dp];(repeat first|exact .refl _ _|assumption|refine .trans ?_ (.mono (by assumption) ?_)|refine .alloc ?_ ?_ _|refine .setCell ?_ ?_ _|refine .drew ?_|refine aL ?_ _|omega|(simp<;>omega))
   have cP:ah wt X.heap.size 108 (Xx gI):=by rw[<- dp];exact ah.new _ _ _
   have M6:=kH cQ;have e6:=kH cP;clear cQ cP dp;obtain⟨wy,rfl⟩:∃wy:World,wy=wr:=⟨_,rfl⟩
   obtain⟨gy,rfl⟩:∃gy:Nat,gy=gk:=⟨_,rfl⟩
   go_loopg [19,161] N (fun gk ly gh wr=> ∃W:Nat,W+gk=N/\gh= .int .i64 W/\tQ wr wt.heap.size ((ms.take W).foldl (oU E n l M) (none,gI)).1 ly/\ah wr X.heap.size 108 (Xx ((ms.take W).foldl (oU E n l M) (none,gI)).2)/\ak (fun g=>g=X.heap.size) wt wr)
   case atStart=>exact⟨0,by omega,rfl,tQ.none,e6.out,ak.refl _ _⟩
   obtain⟨W,dk,rfl,uj,U,mE⟩:=hrel;have fx:W<=N:=by omega
   have Z:=kH dk;clear dk;have lq:wt.heap.size<=wr.heap.size:=mE.size;have cR:=M6.out;have J3:Below X.heap.size X wr:=fR.trans (mE.toBelow (by omega) (by intro g C;omega));have Wz:Below I.heap.size wd wr:=(cJ.toBelow (B:=I.heap.size) (by omega) (by intro g C;omega)).trans (J3.mono (by omega));have Wy:Below I.heap.size I wr:=c4.trans Wz;have iT:X.heap.size<wr.heap.size:=by omega
   clear cR;by_cases cv:W<N
   ·
    have fy:W<ms.length:=by rw[bG.out];exact cv
    have QN:ms[W]? =some ms[W]:=ace fy;generalize ms[W]=z at QN
    obtain⟨i,s0,c,rfl,ck,vP,fA⟩:=dK.out z (acn QN);have ab:=sH (oU E n l M) (none,gI) ms W _ QN;obtain⟨⟨b1,Q⟩,hB⟩:∃B,(ms.take W).foldl (oU E n l M) (none,gI)=B:=⟨_,rfl⟩
    rw[hB,Tn ck vP]at ab;rw[hB]at uj U;simp only at uj U ab;have cD:=gw.out.below (B:=X.heap.size) J3 (fun g C=>(gw.out.lt g C).2);obtain⟨mg,jt,lr,l0,-,-,-,kP,il⟩:=cD.form (by omega);have k9:wr.cell? ⟨mg,jt+W,none⟩=some (.int .i64 (i:Int)):=il W _ (by rw[List.getElem?_map,QN];rfl);clear il cD QN hB;cases l0
    have gZ:=cY.out.below Wy (ab9 _);obtain⟨lb,kr,hA,kC,O⟩:=gZ.cons i c ck;subst hA;have lY:wr.cell? ⟨lb,kr+i*8+3,none⟩=some (.int .i64 c.tk):=O 3 _ rfl;have m0:wr.cell? ⟨lb,kr+i*8+3+1,none⟩=some (.int .i64 c.tl):=O 4 _ rfl;have m1:wr.cell? ⟨lb,kr+i*8+3+2,none⟩=some (.string c.tr):=O 5 _ rfl;have kx:i<nl:=by rw[<- Sd.out];exact(acg.1 ck).1
    have lg:wr.cell? ⟨w.heap.size+1+1+1,0,none⟩=_:=(Wz.cell (p:=⟨w.heap.size+1+1+1,0,none⟩) az).trans eQ;have bu:wr.cell? ⟨w.heap.size+1+1+1,1,none⟩=_:=(Wz.cell (p:=⟨w.heap.size+1+1+1,1,none⟩) az).trans eR;have bm:wr.cell? ⟨w.heap.size+1+1+1,2,none⟩=_:=(Wz.cell (p:=⟨w.heap.size+1+1+1,2,none⟩) az).trans cp;have l7:wr.cell? ⟨X.heap.size,0,none⟩=some (.int .i64 Q.k):=U.cell 0;have l8:wr.cell? ⟨X.heap.size,1,none⟩=some (.int .i64 Q.n):=U.cell 1;have l9:wr.cell? ⟨X.heap.size,2,none⟩=some (.string Q.r):=U.cell 2;have kj:=U.frozen 0;have kk:=U.frozen 1;have kl:=U.frozen 2;have fc:lb<wr.heap.size:=by omega
    have Ug:=cY.out.later Wy;have OC:=kH Ug;have j1:=kH ck;have zG:=kH vP;have F:=kH ab;have Ej:=kH uj;have Ef:=kH U;clear Ug gZ O ck vP ab uj U;go_wp2_with fail
    refine(Y8 (some ⟨lb,kr,none⟩) (some ⟨w.heap.size+1,0,none⟩) nl cL n n (w.heap.size+1+1) l E M i s0 wr OC.out ZI.out c j1.out zG.out fA).mono ?_;intro e wc an;have e7:=Rt E n (iA l M i) i s0;obtain⟨r, hr⟩:=ag (oo E n (iA l M i) i s0);rw[hr]at an F e7;have ec:=kH e7;clear hr e7
    have dn:(c.tk !=5)=false\/((c.tk !=5)=true/\(c.tk !=6)=false)\/((c.tk !=5)=true/\(c.tk !=6)=true):=by
     cases (c.tk !=5)<;>cases (c.tk !=6)<;>simp
    cases r with
    | none=>
     obtain⟨rfl,R⟩:=an;obtain⟨df,k7⟩:=AO R;have lp:=R.size;have L:tQ wc wt.heap.size (uY b1 none) u19:=Ej.out.keep (fun g _ bj=>R.block g bj);have vI:=kH L;have jP:=mE.below R;have yw:=kH (Ef.out.below R iT);clear L R;rcases dn with V| ⟨V,h6⟩| ⟨V,h6⟩
     ·go_wp2_with fail
      go_roundg (gk - 1)
      case measure=>have:=Z.out;omega
      refine⟨W+1,by have:=Z.out;omega,by go_num,?_,?_,by(repeat (first|assumption|refine ak.drew ?_|refine ak.drewN ?_ _|refine ak.alloc ?_ _|refine ak.setCell ?_ (by first|assumption|(simp<;>omega)|omega) _))⟩
      ·rw[F.out];exact vI.out
      rw[F.out,show(if c.tk≠5/\c.tk≠6 then c.mark else Q)=Q from if_neg (by simp at V;simp[V])];exact yw.out
     ·go_wp2_with fail
      go_roundg (gk - 1)
      case measure=>have:=Z.out;omega
      refine⟨W+1,by have:=Z.out;omega,by go_num,?_,?_,by(repeat (first|assumption|refine ak.drew ?_|refine ak.drewN ?_ _|refine ak.alloc ?_ _|refine ak.setCell ?_ (by first|assumption|(simp<;>omega)|omega) _))⟩
      ·rw[F.out];exact vI.out
      rw[F.out,show(if c.tk≠5/\c.tk≠6 then c.mark else Q)=Q from if_neg (by simp at h6;simp[h6])];exact yw.out
     go_wp2_with fail
     go_roundg (gk - 1)
     case measure=>have:=Z.out;omega
     refine⟨W+1,by have:=Z.out;omega,by go_num,?_,?_,by(repeat (first|assumption|refine ak.drew ?_|refine ak.drewN ?_ _|refine ak.alloc ?_ _|refine ak.setCell ?_ (by first|assumption|(simp<;>omega)|omega) _))⟩
     ·rw[F.out]
      exact vI.out.keep (fun g C _=>by
       have G:g≠X.heap.size:=by have:=M6.out;omega
       rw[Below.heap_setCell _ _ _ _ G,Below.heap_setCell _ _ _ _ G,Below.heap_setCell _ _ _ _ G])
     rw[F.out,show(if c.tk≠5/\c.tk≠6 then c.mark else Q)=c.mark from if_pos (by simp at V h6;exact⟨V,h6⟩)]
     exact yw.out.U5 _ _ _
    | some ch=>
     obtain⟨v,rfl,cE,R⟩:=an;have e8:0<ch.length:=List.length_pos_iff.2 (ec.out ch rfl);obtain⟨vg,J,xN,cN,-,-,-,-,-⟩:=cE.form e8;subst cN;have QK:=cE.mono (base':=wt.heap.size) lq;obtain⟨df,k7⟩:=AO R;have lp:=R.size;have yw:=kH (Ef.out.below R iT);have jP:=mE.below R
     cases b1 with
     | none=>
      have ew:u19= .slice none 0 0:=Ej.out;subst ew;have L:tQ wc wt.heap.size (uY none (some ch)) (.slice (some ⟨vg,J,none⟩) ch.length xN):=⟨ec.out ch rfl,QK⟩
      have vI:=kH L;have kh:=PZ;clear L cE QK R;rcases dn with V| ⟨V,h6⟩| ⟨V,h6⟩
      ·go_wp2_with fail
       go_roundg (gk - 1)
       case measure=>have:=Z.out;omega
       refine⟨W+1,by have:=Z.out;omega,by go_num,?_,?_,by(repeat (first|assumption|refine ak.drew ?_|refine ak.drewN ?_ _|refine ak.alloc ?_ _|refine ak.setCell ?_ (by first|assumption|(simp<;>omega)|omega) _))⟩
       ·rw[F.out];exact vI.out
       rw[F.out,show(if c.tk≠5/\c.tk≠6 then c.mark else Q)=Q from if_neg (by simp at V;simp[V])];exact yw.out
      ·go_wp2_with fail
       go_roundg (gk - 1)
       case measure=>have:=Z.out;omega
       refine⟨W+1,by have:=Z.out;omega,by go_num,?_,?_,by(repeat (first|assumption|refine ak.drew ?_|refine ak.drewN ?_ _|refine ak.alloc ?_ _|refine ak.setCell ?_ (by first|assumption|(simp<;>omega)|omega) _))⟩
       ·rw[F.out];exact vI.out
       rw[F.out,show(if c.tk≠5/\c.tk≠6 then c.mark else Q)=Q from if_neg (by simp at h6;simp[h6])];exact yw.out
      go_wp2_with fail
      go_roundg (gk - 1)
      case measure=>have:=Z.out;omega
      refine⟨W+1,by have:=Z.out;omega,by go_num,?_,?_,by(repeat (first|assumption|refine ak.drew ?_|refine ak.drewN ?_ _|refine ak.alloc ?_ _|refine ak.setCell ?_ (by first|assumption|(simp<;>omega)|omega) _))⟩
      ·rw[F.out]
       exact vI.out.keep (fun g C _=>by
        have G:g≠X.heap.size:=by have:=M6.out;omega
        rw[Below.heap_setCell _ _ _ _ G,Below.heap_setCell _ _ _ _ G,Below.heap_setCell _ _ _ _ G])
      rw[F.out,show(if c.tk≠5/\c.tk≠6 then c.mark else Q)=c.mark from if_pos (by simp at V h6;exact⟨V,h6⟩)]
      exact yw.out.U5 _ _ _
     | some old=>
      have bl:=Ej.out.2;have cA:0<old.length:=List.length_pos_iff.2 Ej.out.1;obtain⟨og,Ql,Qn,cN,-,-,-,-,-⟩:=bl.form cA;subst cN;have ki:=fun w'=>IU w' og Ql old.length Qn
      by_cases ib:ch.length<old.length
      ·have L:tQ wc wt.heap.size (uY (some old) (some ch)) (.slice (some ⟨vg,J,none⟩) ch.length xN):=by
        simp only[uY,if_pos ib];exact⟨ec.out ch rfl,QK⟩
       have vI:=kH L;clear L cE QK bl R;rcases dn with V| ⟨V,h6⟩| ⟨V,h6⟩
       ·go_wp2_with fail
        go_roundg (gk - 1)
        case measure=>have:=Z.out;omega
        refine⟨W+1,by have:=Z.out;omega,by go_num,?_,?_,by(repeat (first|assumption|refine ak.drew ?_|refine ak.drewN ?_ _|refine ak.alloc ?_ _|refine ak.setCell ?_ (by first|assumption|(simp<;>omega)|omega) _))⟩
        ·rw[F.out];exact vI.out
        rw[F.out,show(if c.tk≠5/\c.tk≠6 then c.mark else Q)=Q from if_neg (by simp at V;simp[V])];exact yw.out
       ·go_wp2_with fail
        go_roundg (gk - 1)
        case measure=>have:=Z.out;omega
        refine⟨W+1,by have:=Z.out;omega,by go_num,?_,?_,by(repeat (first|assumption|refine ak.drew ?_|refine ak.drewN ?_ _|refine ak.alloc ?_ _|refine ak.setCell ?_ (by first|assumption|(simp<;>omega)|omega) _))⟩
        ·rw[F.out];exact vI.out
        rw[F.out,show(if c.tk≠5/\c.tk≠6 then c.mark else Q)=Q from if_neg (by simp at h6;simp[h6])];exact yw.out
       go_wp2_with fail
       go_roundg (gk - 1)
       case measure=>have:=Z.out;omega
       refine⟨W+1,by have:=Z.out;omega,by go_num,?_,?_,by(repeat (first|assumption|refine ak.drew ?_|refine ak.drewN ?_ _|refine ak.alloc ?_ _|refine ak.setCell ?_ (by first|assumption|(simp<;>omega)|omega) _))⟩
       ·rw[F.out]
        exact vI.out.keep (fun g C _=>by
         have G:g≠X.heap.size:=by have:=M6.out;omega
         rw[Below.heap_setCell _ _ _ _ G,Below.heap_setCell _ _ _ _ G,Below.heap_setCell _ _ _ _ G])
       rw[F.out,show(if c.tk≠5/\c.tk≠6 then c.mark else Q)=c.mark from if_pos (by simp at V h6;exact⟨V,h6⟩)];exact yw.out.U5 _ _ _
      have L:tQ wc wt.heap.size (uY (some old) (some ch)) (.slice (some ⟨og,Ql,none⟩) old.length Qn):=by
       have G:=Ej.out.keep (wy:=wc) (fun g _ bj=>R.block g bj);simp only[uY,if_neg ib];exact G
      have vI:=kH L;clear L cE QK bl R;rcases dn with V| ⟨V,h6⟩| ⟨V,h6⟩
      ·go_wp2_with fail
       go_roundg (gk - 1)
       case measure=>have:=Z.out;omega
       refine⟨W+1,by have:=Z.out;omega,by go_num,?_,?_,by(repeat (first|assumption|refine ak.drew ?_|refine ak.drewN ?_ _|refine ak.alloc ?_ _|refine ak.setCell ?_ (by first|assumption|(simp<;>omega)|omega) _))⟩
       ·rw[F.out];exact vI.out
       rw[F.out,show(if c.tk≠5/\c.tk≠6 then c.mark else Q)=Q from if_neg (by simp at V;simp[V])];exact yw.out
      ·go_wp2_with fail
       go_roundg (gk - 1)
       case measure=>have:=Z.out;omega
       refine⟨W+1,by have:=Z.out;omega,by go_num,?_,?_,by(repeat (first|assumption|refine ak.drew ?_|refine ak.drewN ?_ _|refine ak.alloc ?_ _|refine ak.setCell ?_ (by first|assumption|(simp<;>omega)|omega) _))⟩
       ·rw[F.out];exact vI.out
       rw[F.out,show(if c.tk≠5/\c.tk≠6 then c.mark else Q)=Q from if_neg (by simp at h6;simp[h6])];exact yw.out
      go_wp2_with fail
      go_roundg (gk - 1)
      case measure=>have:=Z.out;omega
      refine⟨W+1,by have:=Z.out;omega,by go_num,?_,?_,by(repeat (first|assumption|refine ak.drew ?_|refine ak.drewN ?_ _|refine ak.alloc ?_ _|refine ak.setCell ?_ (by first|assumption|(simp<;>omega)|omega) _))⟩
      ·rw[F.out]
       exact vI.out.keep (fun g C _=>by
        have G:g≠X.heap.size:=by have:=M6.out;omega
        rw[Below.heap_setCell _ _ _ _ G,Below.heap_setCell _ _ _ _ G,Below.heap_setCell _ _ _ _ G])
      rw[F.out,show(if c.tk≠5/\c.tk≠6 then c.mark else Q)=c.mark from if_pos (by simp at V h6;exact⟨V,h6⟩)];exact yw.out.U5 _ _ _
   have fz:N=W:=by omega
   subst fz;have a6:ms.take N=ms:=List.take_of_length_le (by rw[bG.out];exact ab9 _);rw[a6]at uj U;obtain⟨⟨b1,Q⟩,hB⟩:∃B,ms.foldl (oU E n l M) (none,gI)=B:=⟨_,rfl⟩
   rw[hB]at uj U;simp only at uj U;have QW:pX E n K=bV d n:=by rw[<- HD.out];rfl
   have b4:(iB M (pX E n K)).foldl (oU E n l M) (none,gI)=(b1,Q):=by rw[QW,jf.out];exact hB
   have h7:lC wr I.heap.size (bS l n K).out:=(ah.since jn.out cJ (by omega)).below J3 (by omega);have gN:jX wr (I.heap.size+1) (mU true (bS l n K).seen (bV d n)):=ah.below dT.out J3 (by omega);have ez:=(j7.out.since cJ (by intro g C;omega)).since (ak.below (ak.refl (fun _=>False) X) J3) (by intro g h;cases h);have h0:=(eI.step cJ (fun g C=>.inl (.inr C))).below J3;have gl:=kH b4;have ed:=kH QW;have Hr:=kH h7;have Jw:=kH gN;have e3:=kH U;clear hB a6 b4 QW h7 gN U cv fx Z
   cases b1 with
   | some ch=>
    obtain⟨cj,bs⟩:=uj;obtain⟨k0,aq,b5,eW,kz⟩:=info_parts Yi;have e8:0<ch.length:=List.length_pos_iff.2 cj;obtain⟨og,Ql,Qn,cN,-,-,-,-,-⟩:=bs.form e8;subst cN;have l1:=fun w'=>SI w' og Ql ch.length Qn
    obtain⟨vals,iD,iF⟩:=ez;have db:=kH iD;have RY:=kH iF;have dB:=kH (bs.mono (base':=I.heap.size+2) (by have:=M6.out;omega));obtain⟨nc, fk⟩:=ag ((bS l n K).chains.length);rw[fk]at db O;have dR:=kH fk;clear iD iF bs cj fk;go_wp2_with (at_builtin;go_must (refine dW _ rfl (.tmp 204) (.tmp 206) _ rfl (I.heap.size+2) 28 k0 _ 1 24 Tryz.underlying103 aq b5 eW kz rfl u12 nc vals rfl (by exact db.out.alloc _) ⟨wr.heap.size,0,none⟩ 1 1 [.slice (some ⟨og,Ql,none⟩) ch.length Qn] rfl rfl (lU _ _ _ (by go_simp)) (by simp[Value.oneCell']) (by simp only[maxLen];omega) (by omega) (by simp;omega) ?_);intro v' m a7 A cf)
    go_roundg (gv - 1)
    case measure=>have:=Eh.out;omega
    have ao:bS l n (K+1)=_:=(e0.out K).trans (BR jK.out gl.out);have bd:=fun g C=>db.out.lt g C
    refine⟨K+1,by have:=Eh.out;omega,by go_num,?_,?_,?_,?_⟩
    ·rw[ao]
     exact(ah.alloc Hr.out _).grown A (fun D=>by have:=(bd _ D.symm).1;omega)
    ·rw[ao,ed.out]
     exact(ah.alloc Jw.out _).grown A (fun D=>by have:=(bd _ D.symm).1;omega)
    ·rw[ao]
     have G:=db.out;rw[<- dR.out]at G a7;exact mi.push G RY.out dB.out (fun g C S=>(A.block g (by simp;omega) S).trans (Below.heap_alloc wr _ g C)) a7
    exact(h0.alloc _).grown A (fun g C=>.inr (by have:=(bd g C).1;have:=ef.out;omega))
   | none=>
    have ew:u19= .slice none 0 0:=uj;subst ew;have fl:=PX;clear uj;have j2:=kH ez;clear ez;go_wp2_with fail
    clear fl;obtain⟨wz,rfl⟩:∃wz:World,wz=wr:=⟨_,rfl⟩
    obtain⟨gz,rfl⟩:∃gz:Nat,gz=gk:=⟨_,rfl⟩
    go_loopg [210] NC (fun gk gi wr=> ∃q5:Nat,q5+gk=NC/\gi= .int .i64 q5/\lC wr I.heap.size (mU Q (bS l n K).out ((bV d n).take q5))/\ak (fun g=>g=I.heap.size) wz wr)
    case atStart=>exact⟨0,by omega,rfl,Hr.out,ak.refl _ _⟩
    obtain⟨q5,Jc,rfl,FU,bp⟩:=hrel;have l2:q5<=NC:=by omega
    have Oy:=kH Jc;have Uu:=kH FU;clear Jc;have m8:wz.heap.size<=wr.heap.size:=bp.size;by_cases fg:q5<NC
    ·have cl:q5<(bV d n).length:=by rw[UC.out];exact fg
     have iR:(bV d n)[q5]? =some (bV d n)[q5]:=ace cl;have ix:(bV d n)[q5]<n:=WM _ (List.getElem_mem cl);generalize (bV d n)[q5]=u at iR ix
     have cm:=(tN.out.below (B:=X.heap.size) J3 (fun g C=>(tN.out.lt g C).2)).since bp (fun g C=>by have:=(tN.out.lt g C).1;omega);obtain⟨cg,er,jx,ka,-,-,-,k8,df⟩:=cm.form (by omega);have k9:wr.cell? ⟨cg,er+q5,none⟩=some (.int .i64 (u:Int)):=df q5 _ (by rw[List.getElem?_map,List.getElem?_map,iR];rfl);clear df cm;cases ka
     have la:(u:Int)<(n:Int):=by omega
     have VH:=e3.out.since bp (by omega);have l7:wr.cell? ⟨X.heap.size,0,none⟩=some (.int .i64 Q.k):=VH.cell 0;have l8:wr.cell? ⟨X.heap.size,1,none⟩=some (.int .i64 Q.n):=VH.cell 1;have l9:wr.cell? ⟨X.heap.size,2,none⟩=some (.string Q.r):=VH.cell 2;have nY:u<(mU Q (bS l n K).out ((bV d n).take q5)).length:=by rw[wE,nQ.out];exact ix
     obtain⟨x,lg,bu,bm⟩:=FU.cells nY;have kj:=ah.frozen FU (u*3);have kk:=ah.frozen FU (u*3+1);have kl:=ah.frozen FU (u*3+2);have Sm:=kH iR;have RZ:=kH nY;clear FU iR VH nY;go_wp2_with fail
     go_roundg (gk - 1)
     case measure=>have:=Oy.out;omega
     refine⟨q5+1,by have:=Oy.out;omega,by go_num,?_,by(repeat (first|assumption|refine ak.drew ?_|refine ak.drewN ?_ _|refine ak.alloc ?_ _|refine ak.setCell ?_ (by first|assumption|(simp<;>omega)|omega) _))⟩;rw[Eo _ _ _ Sm.out,IP];exact Uu.out.set RZ.out Q
    have fz:NC=q5:=by omega
    subst fz;have a6:(bV d n).take NC=bV d n:=List.take_of_length_le (by rw[UC.out];exact ab9 _);rw[a6]at FU;have jl:=kH FU;clear FU a6 Uu;go_wp2_with fail
    go_roundg (gv - 1)
    case measure=>have:=Eh.out;omega
    have ao:bS l n (K+1)=_:=(e0.out K).trans (Mt jK.out gl.out);refine⟨K+1,by have:=Eh.out;omega,by go_num,?_,?_,?_,?_⟩
    ·rw[ao,ed.out];exact jl.out
    ·rw[ao,ed.out];exact ah.since Jw.out bp (by omega)
    ·rw[ao];exact j2.out.since bp (by intro g C;omega)
    exact h0.step bp (fun g C=>.inl (.inl C))
  go_wp2_with fail
  go_roundg (gk - 1)
  case measure=>have:=Eh.out;omega
  have ao:bS l n (K+1)=bS l n K:=(e0.out K).trans (xP jK.out);refine⟨K+1,by have:=Eh.out;omega,by go_num,?_,?_,?_,bo⟩
  ·rw[ao];exact HT.out
  ·rw[ao];exact HB.out
  rw[ao];exact HC.out
 have fb:K=n:=by omega
 obtain⟨lD,lI,ey,bs⟩:=HC.out.read;subst ey;have dB:=kH bs;clear bs;go_wp2_with fail
 go_ret3
 refine⟨dd.trans (Rb.mono (by omega)),?_⟩;rw[if_pos iE.out];subst fb;exact⟨_,_,_,rfl,by omega,HT.out,dB.out⟩
def eB:ByteArray:=⟨#[]⟩
def Y1:bD:=⟨0,0,0,1,0,eB,0,0⟩
def Y0:bD:=⟨1,0,1,0,0,eB,0,0⟩
def YZ:bD:=⟨1,1,2,0,0,eB,0,0⟩
def ex3:bD:=⟨0,2,0,2,0,eB,0,0⟩
def Uo:bD:=⟨1,0,2,0,0,eB,0,0⟩
def jF:List bD:=[Y1,Y0,YZ,ex3,Uo]
def nT:Obj:=.cells (jF.flatMap aT).toArray 110
theorem Da(w:World):Calls Tryz.prog 57 #[] w fun e w'=>e= .returned (.slice (some ⟨w.heap.size,0,none⟩) 5 5)/\w'=w.alloc nT:=by
 go_in
 go_wp2_with fail
 go_ret
 exact⟨rfl,rfl⟩
theorem aaB:iB (cK jF jF.length) (pX (gD jF 3 jF.length) 3 0)=[0,3]:=by
 unfold iB;rw[show((pX (gD jF 3 jF.length) 3 0).flatMap (cK jF jF.length)).map (fun x:Nat=>(x:Int))=[0,3] from by kernel_rfl];exact List.mergeSort_of_pairwise (by decide)
theorem XC:bS jF 3 1=⟨List.replicate 3 gI,[[0,4,3]],[true,true,true]⟩:=by
 have h:=qG jF 3 0;rw[h,BR (ch:=[0,4,3]) (t:=⟨2,0,eB⟩) (by kernel_rfl) (by rw[aaB];kernel_rfl),show mU true (bS jF 3 0).seen (pX (gD jF 3 jF.length) 3 0)=[true,true,true] from by kernel_rfl];rfl
theorem Z8:bS jF 3 3=⟨[gI,gI,gI],[[0,4,3]],[true,true,true]⟩:=by
 rw[qG,qG,XC,xP (by rfl),xP (by rfl)];rfl
def D8:List bD:=[Y1,Y0,YZ,Uo]
def uR:qZ:=⟨1,0,eB⟩
theorem Tk:(bS D8 3 3).chains=[]:=by kernel_rfl
theorem aau:(bS D8 3 3).out=[uR,uR,uR]:=by kernel_rfl
theorem all_ex:jF.all (qz 3)=true:=by kernel_rfl
theorem abJ:D8.all (qz 3)=true:=by kernel_rfl
theorem lC.row{w:World}{g:Nat}{l:List qZ}(h:lC w g l):aS 3 iy w w.heap.size (some ⟨g,0,none⟩) l:=by
 intro k c E;refine⟨g,0,rfl,ah.lt h,fun j v A=>?_⟩;obtain⟨B,C,D⟩:=Rj l k c E;rw[Nat.zero_add,ah.cell h]
 match j,A with
 | 0,A=>simp[iy]at A;subst A;simpa using B
 | 1,A=>simp[iy]at A;subst A;simpa using C
 | 2,A=>simp[iy]at A;subst A;simpa using D
 | j+3,A=>simp[iy]at A
theorem exRow(w:World):aS 8 aT (w.alloc nT) (w.alloc nT).heap.size (some ⟨w.heap.size,0,none⟩) jF:=
 (aG.block (base:=0) (w:=w.alloc nT) (e:=110) (size:=8) (g:=w.heap.size) (cur:=(jF.flatMap aT).toArray) (n:=5) (Nat.zero_le _) (heap_alloc_new w _) (by simp[maxLen]) (by rfl)).rowAt rfl rfl (by intro c A;rfl) rfl
def Ml:Obj:=.cells ((List.replicate 3 gI).flatMap iy).toArray 108
theorem abA:(Tryz.prog.info? 110).map (fun i=>(i.zero,i.size,i.bytes))=some (some (.agg #[.int .i64 0,.int .i64 0,.int .i64 0,.int .i64 0,.int .i64 0,.string ⟨#[]⟩,.int .i64 0,.int .i64 0]),8,72):=by kernel_rfl
theorem WN(w:World):Calls Tryz.prog 32 #[] w fun e w'=>e= .returned (.bool true)/\Below w.heap.size w w':=by
 obtain⟨c0,ba,bd,bc,bb⟩:=info_parts abA;go_in
 go_wp2_with fail
 refine(Da _).mono ?_;rintro e A ⟨rfl,rfl⟩;go_wp2_with fail
 refine(Nj 3 _ 5 5 jF _ (exRow w) rfl (by omega) (by omega)).mono ?_;rintro e A ⟨ax,hp⟩;rw[if_pos all_ex,Z8]at hp;obtain⟨g1,A1,c1,rfl,bm,M,jQ⟩:=hp;simp only[aco,List.length_nil]at M jQ⊢;go_wp2_with fail
 refine dF (fun _=>True) [] [false,true,false,true,false,false,false,false] (by kernel_rfl) (by kernel_rfl) rfl (by kernel_rfl) ?_;refine jR rfl ?_;go_simp
 refine(Da _).mono ?_;rintro e w2 ⟨rfl,rfl⟩;refine eD rfl trivial (by intro w' _;go_simp;rfl) ?_;simp only[Act.put,sA,sZ,sC];refine jR rfl ?_;go_simp
 refine(Da _).mono ?_;rintro e w2 ⟨rfl,rfl⟩;refine eD rfl trivial (by intro w' _;go_simp;rfl) ?_;simp only[Act.put,sA,sZ,sC];have ar:ah ((A.alloc nT).drew.alloc nT) A.heap.size 110 (jF.flatMap aT).toArray:=(ah.drew (ah.new A _ _)).alloc _
 have B:ah ((A.alloc nT).drew.alloc nT) (A.heap.size+1) 110 (jF.flatMap aT).toArray:=by
  have T:ah ((A.alloc nT).drew.alloc nT) (A.alloc nT).drew.heap.size 110 (jF.flatMap aT).toArray:=ah.new _ _ _;rw[show(A.alloc nT).drew.heap.size=A.heap.size+1 by simp]at T;exact T
 have aq:Below A.heap.size A ((A.alloc nT).drew.alloc nT):=by(repeat first|exact .refl _ _|assumption|refine .trans ?_ (.mono (by assumption) ?_)|refine .alloc ?_ ?_ _|refine .setCell ?_ ?_ _|refine .drew ?_|refine aL ?_ _|omega|(simp<;>omega))
 have S:((A.alloc nT).drew.alloc nT).heap.size=A.heap.size+1+1:=by simp
 have ay:(A.alloc nT).drew.heap.size=A.heap.size+1:=by simp
 rw[ay];generalize (A.alloc nT).drew.alloc nT=W3 at*
 have b0:W3.cell? ⟨A.heap.size+1,32,none⟩=some (.int .i64 1):=B.cell 32;have b1:W3.cell? ⟨A.heap.size+1,33,none⟩=some (.int .i64 0):=B.cell 33;have b2:W3.cell? ⟨A.heap.size+1,34,none⟩=some (.int .i64 2):=B.cell 34;have Ac:W3.cell? ⟨A.heap.size+1,35,none⟩=some (.int .i64 0):=B.cell 35;have b3:W3.cell? ⟨A.heap.size+1,36,none⟩=some (.int .i64 0):=B.cell 36;have b4:W3.cell? ⟨A.heap.size+1,37,none⟩=some (.string ⟨#[]⟩):=B.cell 37;have b5:W3.cell? ⟨A.heap.size+1,38,none⟩=some (.int .i64 0):=B.cell 38;have b6:W3.cell? ⟨A.heap.size+1,39,none⟩=some (.int .i64 0):=B.cell 39;have a8:=kH ar;have Xb:=kH S;clear ar B S ay;refine eu (w':=W3) rfl (by go_simp;rfl) (fun _=>trivial) ?_;simp only[Act.put,sA,sZ,sC];refine eu (w':=W3.alloc (.cells #[.int .i64 1,.int .i64 0,.int .i64 2,.int .i64 0,.int .i64 0,.string ⟨#[]⟩,.int .i64 0,.int .i64 0] 110)) rfl (by go_simp;rfl) (fun _=>trivial) ?_;simp only[Act.put,sA,sZ,sC]
 have G:aG W3 A.heap.size 110 8 (.slice (some ⟨A.heap.size,0,none⟩) 3 3) 3 (([Y1,Y0,YZ]:List bD).flatMap aT):=
  ⟨rfl,.inr ⟨A.heap.size,0,3,_,rfl,ab9 _,a8.out,ab9 _,by simp[maxLen],by simp[jF,aT],rfl⟩⟩
 have F:∀j u,(aT Uo)[j]? =some u->(W3.alloc (.cells #[.int .i64 1,.int .i64 0,.int .i64 2,.int .i64 0,.int .i64 0,.string ⟨#[]⟩,.int .i64 0,.int .i64 0] 110)).cell? ((⟨W3.heap.size,0,none⟩:Addr).add j)=some u:=fun j u hj=>by
  rw[Addr.add_lit,Nat.zero_add,ah.cell (ah.new W3 110 _)];simpa [aT,Uo,eB] using hj
 have aE:=ax.size;simp at aE;refine jR rfl (fG _ (.tmp 16) (.tmp 20) _ rfl A.heap.size 110 c0 _ 8 72 Tryz.underlying60 ba bd bc bb rfl (.slice (some ⟨A.heap.size,0,none⟩) 3 3) 3 (([Y1,Y0,YZ]:List bD).flatMap aT) rfl (G.alloc _) ⟨W3.heap.size,0,none⟩ 1 1 (aT Uo) rfl rfl F (by simp[aT,Value.oneCell']) (by simp[maxLen]) (by omega) (by have:=Xb.out;simp;omega) ?_);intro v4 w4 O4 Yv a6;refine⟨fun _=>trivial,?_⟩;have L:Below A.heap.size A w4:=Below.grown (aq.alloc (by have:=Xb.out;omega) _) Yv (by have:=Xb.out;simp;omega) (by intro g hg;simp[Value.ownBlock]at hg;omega);have I:([Y1,Y0,YZ]:List bD).flatMap aT++aT Uo=D8.flatMap aT:=rfl;rw[I]at O4;obtain⟨A4,c4,bk,-,-⟩:=O4.shape;subst bk;have J:=O4.rowAt (l:=D8) rfl rfl (by intro c hc;rfl) rfl;have af:=kH J;have U:=kH (ah.below M L (ah.lt M));have vV:=kH (jQ.later L);clear F Yv O4 a6 I J M jQ G b0 b1 b2 Ac b3 b4 b5 b6 a8 Xb aq;simp only[Act.put,sA,sZ,sC];refine eu (w':=w4) rfl (by go_simp;rfl) (fun _=>trivial) ?_;refine gp ?_;simp only[Act.put,sA,sZ,sC];go_wp2_with fail
 refine(Nj 3 _ 4 c4 D8 _ af.out rfl (by omega) (by omega)).mono ?_;rintro e E ⟨a7,hp⟩;rw[if_pos abJ,Tk,aau]at hp;obtain⟨g5,A5,c5,rfl,bn,FU,av⟩:=hp;simp only[List.length_nil];have bj:∀w':World,(Instr.makeSlice 102 (.int .i64 3) (.int .i64 3)).run Tryz.prog w'= .ok (.slice (some ⟨w'.heap.size,0,none⟩) 3 3) (w'.alloc Ml):=Gt 3 (by omega);have d:Below A.heap.size A E:=L.trans (a7.mono L.size);have Z:=kH (ah.below U.out a7 (ah.lt U.out));have Q:=kH (vV.out.later a7);have Uu:=kH FU;have az:=kH av;clear U vV FU av af;go_wp2_with fail
 generalize xK:((E.alloc (.cells #[.int .i64 1,.int .i64 0,.string ⟨#[]⟩] 108)).alloc Ml)=W6
 have f:ah W6 E.heap.size 108 #[.int .i64 1,.int .i64 0,.string ⟨#[]⟩]:=by rw[<- xK];exact(ah.new _ _ _).alloc _
 have ao:lC W6 (E.heap.size+1) [gI,gI,gI]:=by
  have T:ah ((E.alloc (.cells #[.int .i64 1,.int .i64 0,.string ⟨#[]⟩] 108)).alloc Ml) (E.alloc (.cells #[.int .i64 1,.int .i64 0,.string ⟨#[]⟩] 108)).heap.size 108 _:=ah.new _ _ _;rw[World.size_alloc,xK]at T;exact T
 have YO:Below E.heap.size E W6:=by rw[<- xK];(repeat first|exact .refl _ _|assumption|refine .trans ?_ (.mono (by assumption) ?_)|refine .alloc ?_ ?_ _|refine .setCell ?_ ?_ _|refine .drew ?_|refine aL ?_ _|omega|(simp<;>omega))
 have al:=kH (ah.below Z.out YO (ah.lt Z.out));have aa:=kH (Q.out.later YO);have V:=kH (ah.below Uu.out YO (ah.lt Uu.out));clear xK bj Z Q Uu az;refine(OG _ _ 3 3 3 3 [gI,gI,gI] [gI,gI,gI] W6 (lC.row al.out) (lC.row ao) rfl rfl (by omega)).mono ?_;rintro e C ⟨rfl,jP⟩;rw[Kz];have YN:ah C E.heap.size 108 _:=f.below jP f.lt;have n:=YN.cell 0;have r:=YN.cell 1;have t:=YN.cell 2;simp only[acj,ach,aci]at n r t;have x:=YN.lt;have ab:=kH (aa.out.later jP);have W:=kH (ah.below V.out jP (ah.lt V.out));have au:Below A.heap.size A C:=(d.trans (YO.mono d.size)).trans (jP.mono (aca d.size YO.size));clear f ao YN al aa V jP;go_wp2_with fail
 generalize tF:(C.alloc (.cells #[.int .i64 0,.int .i64 4,.int .i64 3] 3)).alloc (.cells #[.slice (some ⟨C.heap.size,0,none⟩) 3 3] 28)=W8
 have N8:lZ W8 W8.heap.size (some ⟨C.heap.size+1,0,none⟩) [[0,4,3]]:=by
  have hi:ah W8 C.heap.size 3 #[.int .i64 0,.int .i64 4,.int .i64 3]:=by rw[<- tF];exact(ah.new _ _ _).alloc _
  have hj:ah W8 (C.heap.size+1) 28 #[.slice (some ⟨C.heap.size,0,none⟩) 3 3]:=by
   have T:=ah.new (C.alloc (.cells #[.int .i64 0,.int .i64 4,.int .i64 3] 3)) 28 #[.slice (some ⟨C.heap.size,0,none⟩) 3 3];rw[World.size_alloc,tF]at T;exact T
  intro k ch hk
  cases k with
  | zero=>
   simp at hk;subst hk;refine⟨C.heap.size+1,0,some ⟨C.heap.size,0,none⟩,3,rfl,hj.lt,hj.cell 0,ab9 _,fun q c D=>⟨C.heap.size,0,rfl,hi.lt,fun m v hm=>?_⟩⟩
   cases m with
   | zero=>
    simp at hm;subst hm;rw[Nat.zero_add,Nat.mul_one,Nat.add_zero,hi.cell q]
    match q,D with
    | 0,D=>simp at D;subst D;rfl
    | 1,D=>simp at D;subst D;rfl
    | 2,D=>simp at D;subst D;rfl
    | q+3,D=>simp at D
   | succ m=>simp at hm
  | succ k=>simp at hk
 have K:Below C.heap.size C W8:=by rw[<- tF];(repeat first|exact .refl _ _|assumption|refine .trans ?_ (.mono (by assumption) ?_)|refine .alloc ?_ ?_ _|refine .setCell ?_ ?_ _|refine .drew ?_|refine aL ?_ _|omega|(simp<;>omega))
 have ad:=kH (ab.out.later K);have X:=kH (ah.below W.out K (ah.lt W.out));clear tF ab W;refine(Zt A1 _ 1 1 c1 1 [[0,4,3]] [[0,4,3]] W8 ad.out N8 rfl rfl (by omega) (by simp)).mono ?_;rintro e O ⟨rfl,nZ⟩;rw[show decide ([[0,4,3]]=([[0,4,3]]:List (List Int)))=true from rfl];have b:Below C.heap.size C O:=K.trans (nZ.mono K.size);obtain⟨N,bh⟩:=AO b;have bo:=b.size;have b7:O.cell? ⟨E.heap.size,0,none⟩=_:=(N _ _ x).trans n;have b8:O.cell? ⟨E.heap.size,1,none⟩=_:=(N _ _ x).trans r;have b9:O.cell? ⟨E.heap.size,2,none⟩=_:=(N _ _ x).trans t;have Y:=kH (ah.below X.out nZ (ah.lt X.out));have y:Below A.heap.size A O:=au.trans (b.mono au.size);clear n r t N bh N8 ad X nZ;go_wp2_with fail
 generalize z:O.alloc (.cells #[.int .i64 1,.int .i64 0,.string ⟨#[]⟩,.int .i64 1,.int .i64 0,.string ⟨#[]⟩,.int .i64 1,.int .i64 0,.string ⟨#[]⟩] 108)=W10
 have an:lC W10 O.heap.size [uR,uR,uR]:=by rw[<- z];exact ah.new _ _ _
 have WB:Below O.heap.size O W10:=by rw[<- z];(repeat first|exact .refl _ _|assumption|refine .trans ?_ (.mono (by assumption) ?_)|refine .alloc ?_ ?_ _|refine .setCell ?_ ?_ _|refine .drew ?_|refine aL ?_ _|omega|(simp<;>omega))
 have R:=kH (ah.below Y.out WB (ah.lt Y.out));clear z Y;refine(OG _ _ 3 3 3 3 [uR,uR,uR] [uR,uR,uR] W10 (lC.row R.out) (lC.row an) rfl rfl (by omega)).mono ?_;rintro e bl ⟨rfl,CW⟩;rw[Kz];have a1:Below A.heap.size A bl:=(y.trans (WB.mono y.size)).trans (CW.mono (aca y.size WB.size));clear an R;go_wp2_with fail
 go_ret
 refine⟨rfl,?_⟩;have aw:Below w.heap.size w A:=(ai w _).trans (ax.mono (by simp));exact aw.trans (a1.mono aw.size)
theorem cL_len(t:ae):(cL t).length<=4*aB t:=by
 unfold cL;split
 ·exact J9 t
 simp
theorem K8(t:ae)(A:Option Addr)(c:Nat)(w:World)(hN:aB t<=1000000)(B:t.kids.length<=c)(k:aD w w.heap.size A 0 t.kids):
 Calls Tryz.prog 9 #[aO t A c] w fun e w'=>e= .returned (.bool true)/\Below w.heap.size w w':=by
 have l:∀W,Below w.heap.size w W->Calls Tryz.prog 10 #[aO t A c,.int .i64 200] W _:=fun W N=>Zl t A c 200 W hN B (aD.mono N.size _ _ _ (aD.below N (ab9 _) _ _ _ k))
 have Q:aB t<=200->∀W,Below w.heap.size w W->Calls Tryz.prog 33 #[aO t A c] W (Fv t W):=fun h2 W N=>Tv t A c W (by omega) B (aD.mono N.size _ _ _ (aD.below N (ab9 _) _ _ _ k))
 have O:aB t<=200->∀W,Below w.heap.size w W->Calls Tryz.prog 34 #[aO t A c] W (Fv t W):=fun h2 W N=>Qf t A c W (by omega) B (aD.mono N.size _ _ _ (aD.below N (ab9 _) _ _ _ k))
 have U:Du t 200=true->aB t<=200:=fun h=>by
  unfold Du at h;rw[acb]at h;exact of_decide_eq_true h.2
 obtain⟨sb, Z⟩:=ag (Du t 200);obtain⟨k0,x0,a0,z0,n0,-,-,-,-,-,dH⟩:=aW t A c;have I:=cL_len t;rw[dH]at l Q O⊢;rw[Z]at l U;unfold Fv at Q O;obtain⟨L, hL⟩:=ag (cL t);obtain⟨st, z⟩:=ag (rS t);rw[hL]at Q O I;rw[z]at Q O;obtain⟨nl, T⟩:=ag L.length;rw[T]at Q O I;obtain⟨b, F⟩:=ag (w.alloc (.cells #[.int .i64 k0,.string x0,.int .i64 a0,.int .i64 z0,.slice A n0 c] 24));have S:Below w.heap.size w b:=by rw[<- F];exact ai _ _
 have m:ah b w.heap.size 24 #[.int .i64 k0,.string x0,.int .i64 a0,.int .i64 z0,.slice A n0 c]:=by rw[<- F];exact ah.new _ _ _
 have nO:=kH (l b S);have Sn:=kH Q;have M:=kH O;have X:=kH U;have K:Hid (L.length=nl/\nl<=4*aB t):=kH ⟨T,I⟩;have J:=kH WN;have lY:=kH S;have j:=kH m;obtain⟨⟨x,v,u,r,q⟩,-⟩:=m.five;have y:=m.lt;clear l Q O U Z dH hL z T S m k B hN I;go_in
 go_wp2_with (rw[F])
 clear x v u r q y F;refine nO.out.mono ?_;rintro e2 w2 ⟨rfl,R⟩;have C:Hid (Below w.heap.size w w2):=kH (lY.out.trans (R.mono lY.out.size));have n:=j.out.below R j.out.lt;have d:=kH n;clear R j nO
 cases sb with
 | false=>
  clear n;go_wp2_with fail
  refine(J.out _).mono ?_;rintro e3 w3 ⟨rfl,D⟩;go_wp2_with fail
  go_ret
  exact⟨rfl,C.out.trans (D.mono C.out.size)⟩
 | true=>
  have f:=kH (X.out rfl);clear X;obtain⟨⟨x,v,u,r,q⟩,-⟩:=n.five;have y:=n.lt;clear n;go_wp2_with fail
  clear x v u r q y;refine(Sn.out f.out _ C.out).mono ?_;rintro e3 w3 ⟨oA,oc,rfl,r1,D⟩;have kX:=d.out.below D d.out.lt;have E:Hid (Below w.heap.size w w3):=kH (C.out.trans (D.mono C.out.size));have V:=kH r1;obtain⟨⟨x,v,u,r,q⟩,-⟩:=kX.five;have y:=kX.lt;clear r1 D kX d Sn C;go_wp2_with fail
  clear x v u r q y;refine(M.out f.out _ E.out).mono ?_;rintro e4 w4 ⟨a1,a6,rfl,r2,G⟩;have g:=kH (Zn oA a1 nl oc a6 L w4 ((V.out.below G (ab9 _)).mono G.size) r2 K.out.1 (by have:=K.out.2;have:=f.out;omega));have Al:Hid (Below w.heap.size w w4):=kH (E.out.trans (G.mono E.out.size));clear r2 G V M E;go_wp2_with fail
  refine g.out.mono ?_;rintro e5 w5 ⟨rfl,Y⟩;go_wp2_with fail
  refine(J.out _).mono ?_;rintro e7 w7 ⟨rfl,jP⟩;go_wp2_with fail
  go_ret
  exact⟨rfl,Al.out.trans (Y.trans (jP.mono Y.size) |>.mono Al.out.size)⟩
open Go.ChangeShapes Go.WideShapes Go.ChangeAt
theorem Tryz.own:ownKnob Tryz.prog.godebug=none:=by kernel_rfl
theorem Tryz.laidOut:laidOutB Tryz.prog=true:=by kernel_rfl
section
variable {H:Type}{enc:TypeId×Value->H}{P:Program}
theorem OJ(M:laidOutB P=true){W I:World}(K:Below W.heap.size W I)(J:Nat->Bool):∀{ts:List TypeId}{F:List Value}{ds:List (DataW H)}{C:List MemPlace},
 ts.all (fun t=>P.readableRec t&&decide (t<P.types.size))=true->DataW.TrodAll enc P W 0 (fun _=>true) true ts F ds C->(∀x∈C,x.block<W.heap.size)->(∀x∈C,J x.block=true) ->
 DataW.TrodAll enc P I 0 J true ts F ds C:=by
 intro ts
 induction ts with
 | nil=>
  intro F ds C _ h _ _;cases F<;>cases ds<;>simp[DataW.TrodAll]at h⊢
  exact h
 | cons t ts ih=>
  intro F ds C G h D E;obtain⟨v,N,d,ds',p,q,rfl,rfl,rfl,L,A⟩:=trodAll_cons h;rw[List.all_cons,acb,acb]at G;refine⟨p,q,?_,ih G.2 A (fun x B=>D x (by simp[B])) (fun x B=>E x (by simp[B])),rfl⟩;exact WideElems.Trod_stays M G.1.1 (of_decide_eq_true G.1.2) L (fun x B=>K.same (D x (by simp[B]))) (fun x B=>E x (by simp[B]))
theorem aaD(g:laidOutB P=true){f:Func}{s:ChangeSpec}{B J C I:Bool}{W Q:World}{args:Array Value}{ds N:List (DataW H)}{A:List MemPlace}{m:TypeId}
 (X:DataW.Whole enc P f.params.toList s.vars B W args.toList ds N A) (n:s.vars=[])
 (M:f.params.toList.all (fun t=>P.readableRec t&&decide (t<P.types.size))=true)
 (K:s.fn H (ds++N)= { results:=[.lit (.bool true)],args:=ds }) (r:f.resultTypes= #[m]) (U:P.underlying m=some .bool) (Z:Below W.heap.size W Q):
 s.post enc P f B J C I W args (.bool true) Q:=by
 have L:∀p∈A,p.block<W.heap.size:=fun p z=>X.lt p z
 have Y:=X;obtain⟨p,q,l,v,T,hz,d⟩:=X;rw[n]at v;obtain⟨j,c⟩:=trodVars_none v;subst c;rw[List.append_nil]at T;subst T
 have G:∀(b:Nat) (F:Nat->Bool) (u:Bool),DataW.TrodAll enc P Q b F u f.resultTypes.toList ((Value.bool true).resultList f.resultTypes.size) (s.fn H (ds++N)).results []:=fun b F u=>by
  rw[K,r];exact trodAll_mk1 (shut_bool U true)
 have D:∀F:Nat->Bool,(∀x∈A,F x.block=true)->DataW.TrodAll enc P Q 0 F true f.params.toList args.toList (s.fn H (ds++N)).args A:=fun F y=>by
  rw[K];exact OJ g Z F M l L y
 have E:∀F:Nat->Bool,DataW.TrodVars enc P Q F s.vars (s.fn H (ds++N)).vars []:=fun F=>by
  rw[K,n];rfl
 have S:∀x∈A,(fun b=>decide (b<W.heap.size)) x.block=true:=fun x O=>by simpa using L x O
 refine⟨ds,N,A,[],A,[],Y,G _ _ _,D _ S,E _,World.keptBut_mono (fun x O=>⟨O,Or.inr (by simpa using O)⟩) (Z.frame (· ∈A)),fun _=>?_⟩;refine⟨ok_one r rfl (okWide_bool_mk U true),_,_,([]++A)++[],⟨[]++A,[],trodAll_append (D _ (fun _ _=>rfl)) (G _ _ _),E _,rfl,?_,?_⟩,?_⟩
 ·intro b V z
  have R:MemPlace.cell b V∈A:=by simpa using z
  rw[Z.frozen (L _ R)];exact hz b V R
 ·intro k
  simpa using d k
 intro x O _;simpa using O
end
end Go.Proofs.YtoepemlnlpamlaaGreat
