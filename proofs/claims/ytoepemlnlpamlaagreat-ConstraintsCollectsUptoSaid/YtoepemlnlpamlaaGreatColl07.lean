/- Collect agrees with the reference. Part 7: Res1 Res2 Res3 Visib At2 At3 At4 At5 Free Fre1 Ints KBasics KInts KModel KDist. -/
import Derived.Test.YtoepemlnlpamlaaGreatRows
import Derived.Test.YtoepemlnlpamlaaGreatColl06
set_option maxRecDepth 100000
set_option maxHeartbeats 4000000
namespace Go.Proofs.YtoepemlnlpamlaaGreat
open Go.RowKit
theorem aQ.pushU{E:RC}{G:bf}{r:RS}{V:RV}{w B:World}(h:aQ E G r V w)(U:r.aP=[])(O:V.vals=[])(x:Int){A3:Option Addr}{c3:Nat}
 (Q:aG B E.base 3 1 (.slice A3 (r.uses.length+1) c3) (r.uses.length+1) (bL r.uses++[.int .i64 x])) (D:w.grownBy B (Value.slice E.uA r.uses.length E.uc).ownBlock):
 aQ { E with uA:=A3,uc:=c3 } G { r with uses:=r.uses++[x] } V (B.setCell ⟨E.rp,4,none⟩ (.slice A3 (r.uses.length+1) c3))/\ak (fun g=>E.base<=g) w (B.setCell ⟨E.rp,4,none⟩ (.slice A3 (r.uses.length+1) c3)):=by
 have N:ak (fun g=>g=E.rp\/(Value.slice E.uA r.uses.length E.uc).ownBlock=some g) w (B.setCell ⟨E.rp,4,none⟩ (.slice A3 (r.uses.length+1) c3)):=
  ((ak.refl _ w).grown D (fun g D=>.inl (.inr D))).setCell (.inl (.inl rfl)) _
 have L:(Value.slice E.uA r.uses.length E.uc).ownBlock≠some E.rp:=h.us.bB h.blk (by decide);have H:ah B E.rp 75 _:=h.blk.grown D (Ne.symm L)
 have J:∀{K:Type} [DecidableEq K] {KK:nW K}{q:Nat}{m:List (K×Value)},aY KK w q m->aY KK (B.setCell ⟨E.rp,4,none⟩ (.slice A3 (r.uses.length+1) c3)) q m:=fun C=>C.since N (fun A=>by
  rcases A with A|A
  ·exact C.rX h.blk A
  exact C.iM h.us A)
 have I:∀{e size v n xs},aG w E.base e size v n xs->e≠75->e≠3->aG (B.setCell ⟨E.rp,4,none⟩ (.slice A3 (r.uses.length+1) c3)) E.base e size v n xs:=fun C A T=>C.since N (fun g D F=>by
  rcases F with F|F
  ·exact C.bB h.blk A (by rw[D,F])
  exact C.apart h.us T g D F)
 have P:(r.uses++[x]).length=r.uses.length+1:=by simp
 have S:bL (r.uses++[x])=bL r.uses++[.int .i64 x]:=by simp[bL]
 refine⟨⟨?_,J h.gl,J h.fl,J h.kn,J h.vi,?_,I h.ds (by decide) (by decide),?_,I h.ps (by decide) (by decide),h.low,h.apart⟩,?_⟩
 ·have:=H.dB 4 (.slice A3 (r.uses.length+1) c3)
  simp only[P];simpa using this
 ·simp only[U,O]
  rfl
 ·have R:(Value.slice A3 (r.uses.length+1) c3).ownBlock≠some E.rp:=Q.bB H (by decide)
  have:=Q.setCell (p:=⟨E.rp,4,none⟩) R (.slice A3 (r.uses.length+1) c3);simp only[P,S];exact this
 refine ak.mono N fun g A=>?_
 rcases A with rfl|A
 ·exact h.low.1
 exact(h.us.lt g A).1
theorem aQ.collected{E:RC}{G H:bf}{r:RS}{V:RV}{w w':World}(h:aQ E G r V w)(C:ak (fun x=>x=E.g\/x=E.f\/x=E.k) w w')(D:CG E.g E.f E.k H w'):aQ E H r V w' where
 blk:=h.blk.since C (fun A=>by
  rcases A with A|A|A
  ·exact h.gl.rX h.blk A.symm
  ·exact h.fl.rX h.blk A.symm
  exact h.kn.rX h.blk A.symm)
 gl:=D.gl
 fl:=D.fl
 kn:=D.kn
 vi:=h.vi.since C (fun A=>by have:=h.apart;omega)
 aP:=fJ.of_block h.aP fun g cur B _=>C.block g (acd.1 B).1 fun A=>by
  have F:∃J I,w.heap[g]? =some (.map J I):=by
   rcases A with rfl|rfl|rfl
   ·exact h.gl.isMap
   ·exact h.fl.isMap
   exact h.kn.isMap
  obtain⟨J,I,F⟩:=F;rw[F]at B;cases B
 ds:=h.ds.since C (fun g B A=>by
  rcases A with rfl|rfl|rfl
  ·exact h.gl.iM h.ds B
  ·exact h.fl.iM h.ds B
  exact h.kn.iM h.ds B)
 us:=h.us.since C (fun g B A=>by
  rcases A with rfl|rfl|rfl
  ·exact h.gl.iM h.us B
  ·exact h.fl.iM h.us B
  exact h.kn.iM h.us B)
 ps:=h.ps.since C (fun g B A=>by
  rcases A with rfl|rfl|rfl
  ·exact h.gl.iM h.ps B
  ·exact h.fl.iM h.ps B
  exact h.kn.iM h.ps B)
 low:=h.low
 apart:=h.apart
theorem fJ.since{w w':World}{base:Nat}{B:Option Nat}{S:Nat->Prop}(A:ak S w w'):∀{l:List (Int×List Int)}{vals:List (Int×Value)},fJ w base B l vals->(∀y∈vals,∀g,y.2.ownBlock=some g->¬S g)->fJ w' base B l vals
 | [],_,h,_=>h
 | x::_,_,⟨v,vs,h1,h2,h3,h4⟩,hk=>by
  subst h1;exact⟨v,vs,rfl,h2.since A (fun g C=>hk (x.1,v) (by simp) g C),h3,fJ.since A h4 fun y D=>hk y (by simp[D])⟩
theorem fJ.split{w:World}{base:Nat}{P:Option Nat}{k:Int}{v:Value}{E:List (Int×Value)}:∀(D:List (Int×Value)) {l:List (Int×List Int)},fJ w base P l (D++(k,v)::E) ->
 ∃I A J,l=I++(k,A)::J/\aG w base 3 1 v A.length (bL A)/\(∀g,v.ownBlock=some g->P≠some g) /\
  ∀B w',aG w' base 3 1 v B.length (bL B)->ak (fun g=>v.ownBlock=some g) w w'->fJ w' base P (I++(k,B)::J) (D++(k,v)::E)
 | [],l,h=>by
  cases l with
  | nil=>
   have:([]:List (Int×Value))++(k,v)::E=[]:=h
   cases this
  | cons x l=>
   obtain⟨Q,Y,F,K,C,L⟩:=h;simp only[List.nil_append,List.cons.injEq,Prod.mk.injEq]at F;obtain⟨⟨R,rfl⟩,rfl⟩:=F;obtain⟨X,A⟩:=x;have S:k=X:=R;subst S;exact⟨[],A,l,rfl,K,fun g G=>(C g G).1,fun B w' N H=>⟨v,E,rfl,N,C,fJ.since H L fun y W g G O=>(C g O).2 y W G⟩⟩
 | y::D,l,h=>by
  cases l with
  | nil=>
   have:(y::D)++(k,v)::E=[]:=h
   cases this
  | cons x l=>
   obtain⟨Q,Y,F,K,C,L⟩:=h;simp only[List.cons_append,List.cons.injEq]at F;obtain⟨rfl,rfl⟩:=F;obtain⟨I,A,J,rfl,T,U,V⟩:=fJ.split D L;exact⟨x::I,A,J,rfl,T,U,fun B w' N H=>⟨Q,D++(k,v)::E,rfl,K.since H (fun g G O=>(C g G).2 (k,v) (by simp) O),C,V B w' N H⟩⟩
theorem aQ.setVis{E:RC}{G:bf}{r:RS}{V:RV}{w:World}(h:aQ E G r V w){R W:List (Int×Value)}{k:Int}{v:Value}(Q:V.vals=R++(k,v)::W):
 ∃J H L,r.aP=J++(k,H)::L/\aG w E.base 3 1 v H.length (bL H) /\
  ∀B w',aG w' E.base 3 1 v B.length (bL B)->ak (fun g=>v.ownBlock=some g) w w'->aQ E G { r with aP:=J++(k,B)::L } V w':=by
 have P:=h.aP;rw[Q]at P;obtain⟨J,H,L,e,D,S,T⟩:=fJ.split R P;refine⟨J,H,L,e,D,fun B w' U A=>?_⟩;have I:∀{K:Type} [DecidableEq K] {KK:nW K}{q:Nat}{m:List (K×Value)},aY KK w q m->aY KK w' q m:=fun O=>O.since A (fun N=>O.iM D N)
 refine⟨h.blk.since A (fun N=>D.bB h.blk (by decide) N),I h.gl,I h.fl,I h.kn,I h.vi,?_,h.ds.since A (fun g F C=>h.ds.apart D (by decide) g F C),h.us.since A (fun g F C=>S g C F),h.ps.since A (fun g F C=>h.ps.apart D (by decide) g F C),h.low,h.apart⟩;rw[Q];exact T B w' U A
theorem aQ.sinceO{E:RC}{G:bf}{r:RS}{V:RV}{w w':World}{S:Nat->Prop}(h:aQ E G r V w)(F:ak S w w')(I:∀g O t P,w.heap[g]? =some (.cells O t P)->¬S g)(Q:∀g N L,w.heap[g]? =some (.map N L)->¬S g):aQ E G r V w':=by
 have C:∀{K:Type} [DecidableEq K] {KK:nW K}{q:Nat}{m:List (K×Value)},aY KK w q m->aY KK w' q m:=fun B=>B.since F (fun H=>by
  obtain⟨N,L,J⟩:=B.isMap
  exact Q _ _ _ J H)
 have A:∀{e size v n xs},aG w E.base e size v n xs->aG w' E.base e size v n xs:=fun B=>B.since F (fun g D H=>by
  obtain⟨cur,J⟩:=B.obj g D
  exact I _ _ _ _ J H)
 exact⟨h.blk.since F (I _ _ _ _ h.blk),C h.gl,C h.fl,C h.kn,C h.vi,fJ.of_block h.aP fun g cur D _=>F.block g (acd.1 D).1 (I _ _ _ _ D),A h.ds,A h.us,A h.ps,h.low,h.apart⟩
theorem ma.obj{K:Type}[DecidableEq K]{KK:nW K}{w:World}{r b:Nat}{m:List (K×Value)}{left:List (Value×Value)}(h:ma KK w r b m left):∃a c d e,w.heap[b]? =some (.mapIter a c d e):=by
 obtain⟨E,A,B,D,-,-,-,-,C,-⟩:=h;exact⟨_,_,_,_,C⟩
theorem PG{A:Type}{F:A->A}{l:List A}{i:Nat}{u:A}(h:l[i]? =some u):((l.take i).map F++l.drop i)[i]? =some u/\((l.take i).map F++l.drop i).set i (F u)=(l.take (i+1)).map F++l.drop (i+1):=by
 obtain⟨B,E⟩:=acg.1 h;have D:((l.take i).map F).length=i:=by simp;omega
 have C:l.drop i=u::l.drop (i+1):=by rw[List.drop_eq_getElem_cons B,E]
 constructor
 ·rw[ack (by omega),D,Nat.sub_self,C]
  rfl
 rw[List.set_append_right _ _ (by omega),D,Nat.sub_self,C,yU h];simp
theorem uN{K V:Type}[DecidableEq K](l:List (K×V))(k:K)(v:V)(B:(l.map (·.1)).Nodup):((dZ l k v).map (·.1)).Nodup:=by
 by_cases A:k∈l.map (·.1)
 ·have:(dZ l k v).map (·.1)=l.map (·.1):=by
   clear B
   induction l with
   | nil=>cases A
   | cons x l ih=>
    rw[dZ];by_cases h:k=x.1
    ·rw[if_pos h,List.map_cons,List.map_cons,h]
    rw[if_neg h,List.map_cons,List.map_cons];rw[List.map_cons,List.mem_cons]at A;rw[ih (A.resolve_left h)]
  rw[this];exact B
 have:dZ l k v=l++[(k,v)]:=Gs v A;rw[this,List.map_append,List.nodup_append];refine⟨B,by simp,fun a D b C=>?_⟩;simp at C;subst C;exact fun e=>A (e ▸ D)
theorem Vs:Fh fun a b=>(a.aP.map (·.1)).Nodup->(b.aP.map (·.1)).Nodup where
 refl:=fun _ h=>h
 trans:=fun h k q=>k (h q)
 none_:=fun r i v h=>by
  unfold aI;cases i
  ·exact h
  exact uN _ _ _ h
 say:=fun r i v c t h=>by
  unfold pE aI;cases i
  ·exact h
  exact uN _ _ _ h
 decl:=fun r i v c t h=>by
  unfold kK aI;cases i
  ·exact h
  exact uN _ _ _ h
 use:=fun r i v k h=>by
  unfold aI;cases i
  ·exact h
  exact uN _ _ _ h
 owner:=fun r o h=>h
theorem UQ(G:bf)(t:ae)(i:Bool)(s:aR)(r:RS)(h:(r.aP.map (·.1)).Nodup):((aK G i t s r).1.aP.map (·.1)).Nodup:=BN Vs G t i s r h
def Ba(F:Int->Int)(f:Int->Bool)(l:List (Int×List Int)):List (Int×List Int):=l.map fun x=>(x.1,if f x.1 then x.2 else x.2.map F)
theorem Xq{F:Int->Int}{f:Int->Bool}{l H I:List (Int×List Int)}{k:Int}{D:List Int}(G:(l.map (·.1)).Nodup)(h:Ba F f l=H++(k,D)::I)(R:f k=true):
 Ba F (fun j=>f j&&decide (j≠k)) l=H++(k,D.map F)::I:=by
 unfold Ba at h⊢;obtain⟨J,T,rfl,O,P⟩:=List.map_eq_append_iff.1 h;obtain⟨y,K,rfl,E,Q⟩:=List.map_eq_cons_iff.1 P;have C:y.1=k:=congrArg Prod.fst E
 have B:y.2=D:=by
  have:=congrArg Prod.snd E;simp only[C,R,if_true]at this;exact this
 rw[List.map_append,List.map_cons,List.nodup_append]at G;obtain⟨-,A,S⟩:=G;rw[List.nodup_cons]at A;rw[List.map_append,List.map_cons,<- O,<- Q]
 have L:(J.map fun x=>(x.1,if (f x.1&&decide (x.1≠k))=true then x.2 else x.2.map F))=J.map fun x=>(x.1,if f x.1=true then x.2 else x.2.map F):=by
  refine List.map_congr_left fun x B=>?_
  have:x.1≠k:=fun e=>S x.1 (List.mem_map.2 ⟨x,B,rfl⟩) y.1 (by simp) (by rw[e,C])
  rw[decide_eq_true this,Bool.and_true]
 have N:(K.map fun x=>(x.1,if (f x.1&&decide (x.1≠k))=true then x.2 else x.2.map F))=K.map fun x=>(x.1,if f x.1=true then x.2 else x.2.map F):=by
  refine List.map_congr_left fun x B=>?_
  have:x.1≠k:=fun e=>A.1 (by rw[C,<- e];exact List.mem_map.2 ⟨x,B,rfl⟩)
  rw[decide_eq_true this,Bool.and_true]
 rw[L,N];congr 2
 rw[C,B];simp
theorem ZX{F:Int->Int}{f:Int->Bool}{l:List (Int×List Int)}(h:∀k∈l.map (·.1),f k=false):Ba F f l=l.map fun x=>(x.1,x.2.map F):=by
 unfold Ba;refine List.map_congr_left fun x A=>?_
 rw[h x.1 (List.mem_map.2 ⟨x,A,rfl⟩)];rfl
theorem UT(F:Int->Int)(l:List (Int×List Int)):Ba F (fun _=>true) l=l:=by
 unfold Ba;simp
theorem XJ(w:World)(C:Int)(x0:ByteArray)(B E:Int)(A:Option Addr)(D c:Nat):∃F,
 (((((w.alloc (.cells #[.int .i64 C,.string x0,.int .i64 B,.int .i64 E,.slice A D c] 24)).alloc (.map #[] 0)).alloc (.map #[] 0)).alloc (.map #[] 0)).alloc (.map #[] 0)).alloc (.cells #[.map (some (w.heap.size+1)),.map (some (w.heap.size+1+1)),.map (some (w.heap.size+1+1+1)),.slice none 0 0,.slice none 0 0,.map (some (w.heap.size+1+1+1+1)),.slice none 0 0,.int .i64 0,.int .i64 0] 75)=F /\
 aQ ⟨w.heap.size,w.heap.size+1+1+1+1+1,w.heap.size+1,w.heap.size+1+1,w.heap.size+1+1+1,w.heap.size+1+1+1+1,none,0⟩ ⟨[],[],[]⟩ ⟨[],[],[],[],0,0⟩ ⟨none,0,none,0,[]⟩ F /\
 ah F w.heap.size 24 #[.int .i64 C,.string x0,.int .i64 B,.int .i64 E,.slice A D c]/\Below w.heap.size w F:=by
 refine⟨_,rfl,⟨?_,?_,?_,?_,?_,rfl,aG.nil _ _ _ _,aG.nil _ _ _ _,aG.nil _ _ _ _,⟨by simp;omega,by simp;omega⟩,⟨by simp;omega,by simp;omega,by simp⟩⟩,?_,?_⟩
 ·have:=ah.new (((((w.alloc (.cells #[.int .i64 C,.string x0,.int .i64 B,.int .i64 E,.slice A D c] 24)).alloc (.map #[] 0)).alloc (.map #[] 0)).alloc (.map #[] 0)).alloc (.map #[] 0)) 75 #[.map (some (w.heap.size+1)),.map (some (w.heap.size+1+1)),.map (some (w.heap.size+1+1+1)),.slice none 0 0,.slice none 0 0,.map (some (w.heap.size+1+1+1+1)),.slice none 0 0,.int .i64 0,.int .i64 0]
  simpa using this
 ·have:=((((aY.made (KK:=jS) (w.alloc (.cells #[.int .i64 C,.string x0,.int .i64 B,.int .i64 E,.slice A D c] 24))).alloc (.map #[] 0)).alloc (.map #[] 0)).alloc (.map #[] 0)).alloc (.cells #[.map (some (w.heap.size+1)),.map (some (w.heap.size+1+1)),.map (some (w.heap.size+1+1+1)),.slice none 0 0,.slice none 0 0,.map (some (w.heap.size+1+1+1+1)),.slice none 0 0,.int .i64 0,.int .i64 0] 75)
  simpa [jM] using this
 ·have:=(((aY.made (KK:=jS) ((w.alloc (.cells #[.int .i64 C,.string x0,.int .i64 B,.int .i64 E,.slice A D c] 24)).alloc (.map #[] 0))).alloc (.map #[] 0)).alloc (.map #[] 0)).alloc (.cells #[.map (some (w.heap.size+1)),.map (some (w.heap.size+1+1)),.map (some (w.heap.size+1+1+1)),.slice none 0 0,.slice none 0 0,.map (some (w.heap.size+1+1+1+1)),.slice none 0 0,.int .i64 0,.int .i64 0] 75)
  simpa [jM] using this
 ·have:=((aY.made (KK:=iU) (((w.alloc (.cells #[.int .i64 C,.string x0,.int .i64 B,.int .i64 E,.slice A D c] 24)).alloc (.map #[] 0)).alloc (.map #[] 0))).alloc (.map #[] 0)).alloc (.cells #[.map (some (w.heap.size+1)),.map (some (w.heap.size+1+1)),.map (some (w.heap.size+1+1+1)),.slice none 0 0,.slice none 0 0,.map (some (w.heap.size+1+1+1+1)),.slice none 0 0,.int .i64 0,.int .i64 0] 75)
  simpa [uD] using this
 ·have:=(aY.made (KK:=iU) ((((w.alloc (.cells #[.int .i64 C,.string x0,.int .i64 B,.int .i64 E,.slice A D c] 24)).alloc (.map #[] 0)).alloc (.map #[] 0)).alloc (.map #[] 0))).alloc (.cells #[.map (some (w.heap.size+1)),.map (some (w.heap.size+1+1)),.map (some (w.heap.size+1+1+1)),.slice none 0 0,.slice none 0 0,.map (some (w.heap.size+1+1+1+1)),.slice none 0 0,.int .i64 0,.int .i64 0] 75)
  simpa using this
 ·exact((((ah.new w _ _).alloc _).alloc _).alloc _ |>.alloc _).alloc _
 exact((((((Below.refl _ w).alloc (ab9 _) _).alloc (by simp) _).alloc (by simp;omega) _).alloc (by simp;omega) _).alloc (by simp;omega) _).alloc (by simp;omega) _
theorem NJ:∀(a:List Dc) (d:Dc) (i:Nat) (l:List (Int×Int)),zL (a++[d]) i l=dZ (zL a i l) d.node ((i+a.length:Nat):Int)
 | [],d,i,l=>rfl
 | x::a,d,i,l=>by
  rw[List.cons_append,zL,NJ a d (i+1) _,zL,aco];congr 2
  omega
def RI(t:ae)(w:World)(e:Ending)(w':World):Prop:=∃E V,e= .returned (.pointer (some ⟨E.rp,0,none⟩))/\E.base=w.heap.size/\aQ E (fC t) (aZ t) V w'/\Below w.heap.size w w'
theorem SK(t:ae)(A:Option Addr)(c:Nat)(w:World)(hv:pq true t=true)(hN:aB t<=1000000)(av:t.kids.length<=c)(hk:aD w w.heap.size A 0 t.kids):
 Calls Tryz.prog 41 #[aO t A c] w (RI t w):=by
 obtain⟨k0,x0,a0,z0,n0,-,-,-,-,dQ,dH⟩:=aW t A c;obtain⟨i0,dx,e6,e7,e8⟩:=info_parts mH;obtain⟨W1,df,U,Z,b7⟩:=XJ w k0 x0 a0 z0 A n0 c;have a1:=vR t A c W1 (by omega) (aD.mono b7.size _ _ _ (aD.below b7 (ab9 _) _ _ _ hk));rw[dH]at a1⊢;obtain⟨N, Ab⟩:=ag (aB t);rw[Ab]at a1 hN;have dK:=@run_makeMap Tryz.prog;have Ju:=kH a1;have rV:=kH Ab;have H1:=kH U;have tK:=kH Z;have bd:=kH b7;have Hy:=kH dH;have RX:=kH hv;have bh:=kH av;have HK:=kH hk;have m0:=Z.cell 0;have m1:=Z.cell 1;have m2:=Z.cell 2;have m3:=Z.cell 3;have m4:=Z.cell 4;have lm:=Z.lt;clear a1 Ab U Z b7 dH hv av hk dQ;go_in
 go_wp2_with fail
 clear df m0 m1 m2 m3 m4 lm;refine Ju.out.mono ?_;rintro e2 w2 ⟨rfl,b8⟩;obtain⟨D, Lh⟩:=ag (w.heap.size+1+1+1+1+1);rw[Lh]at H1⊢;obtain⟨vi, Le⟩:=ag (w.heap.size+1+1+1+1);rw[Le]at H1⊢;obtain⟨kk, cD⟩:=ag (w.heap.size+1+1+1);rw[cD]at H1⊢;obtain⟨ff, wS⟩:=ag (w.heap.size+1+1);rw[wS]at H1⊢;obtain⟨gg, cA⟩:=ag (w.heap.size+1);rw[cA]at H1⊢;have af:Hid (w.heap.size+1=gg/\gg+1=ff/\ff+1=kk/\kk+1=vi/\vi+1=D):=kH (by omega);have cY:Hid (aQ ⟨w.heap.size,D,gg,ff,kk,vi,none,0⟩ ⟨[],[],[]⟩ ⟨[],List.replicate 0 (-1),[],[],0,0⟩ ⟨none,0,none,0,[]⟩ w2):=kH (H1.out.below b8);have cR:Hid (Below w.heap.size w w2):=kH (bd.out.trans (b8.mono bd.out.size));have vJ:Hid (ah w2 w.heap.size 24 #[.int .i64 k0,.string x0,.int .i64 a0,.int .i64 z0,.slice A n0 c]):=kH (tK.out.below b8 tK.out.lt);clear Lh Le cD wS cA b8 Ju H1 bd tK;go_wp2_with fail
 go_loopg [21] N (fun gk XF wr=> ∃(j:Nat) (A1:Option Addr) (c1:Nat),XF= .int .i64 (j:Int)/\j+gk=N/\Hid (aQ ⟨w.heap.size,D,gg,ff,kk,vi,A1,c1⟩ ⟨[],[],[]⟩ ⟨[],List.replicate j (-1),[],[],0,0⟩ ⟨none,0,none,0,[]⟩ wr)/\Hid (Below w.heap.size w wr)/\Hid (ah wr w.heap.size 24 #[.int .i64 k0,.string x0,.int .i64 a0,.int .i64 z0,.slice A n0 c]))
 case atStart=>exact⟨0,none,0,rfl,by omega,cY,cR,vJ⟩
 obtain⟨j,A1,c1,rfl,hj,I,HB,tK⟩:=hrel;by_cases cE:j<N
 ·have bP:(j:Int)<(N:Int):=by omega
  have hw:IntKind.i64.wrap ((j:Int)+1)=(j:Int)+1:=IntWalk.i64_in _ (by omega);have c4:wr.cell? ⟨D,4,none⟩=some (.slice A1 j c1):=by have:=I.out.blk.cell 4;simpa using this
  have lr:D<wr.heap.size:=I.out.blk.lt;have ho:=I.out.us;simp only[List.length_replicate]at ho;have HO:=kH ho;clear ho;go_wp2_with (at_builtin;go_must (refine dW _ rfl (.tmp 27) (.tmp 28) _ rfl w.heap.size 3 i0 _ 1 8 Tryz.underlying28 dx e6 e7 e8 rfl (.slice A1 j c1) j (bL (List.replicate j (-1))) rfl (HO.out.alloc _) ⟨wr.heap.size,0,none⟩ 1 1 [.int .i64 (-1)] rfl rfl (lU _ _ _ (by go_simp)) (by simp[Value.oneCell']) (by simp only[maxLen];omega) (by omega) (by have:=HB.out.size;simp;omega) ?_);intro vn w6 G z dj;obtain⟨A6,c6,qj,-,-⟩:=G.shape;subst qj;have bk:=kH G;have xD:=kH z;have Cj:=ah.grown (ah.alloc I.out.blk _) z (fun e1=>HO.out.bB I.out.blk (by decide) e1.symm);have q4:=Cj.cell 4;have q5:=Cj.frozen 4;have q6:=Cj.lt;clear G z dj Cj)
  have cx:=I.out.below (ai wr (.cells #[.int .i64 (-1)] 3));have c7:=cx.pushU rfl rfl (-1) (A3:=A6) (c3:=c6) (by simp only[List.length_replicate];exact bk.out) (by simp only[List.length_replicate];exact xD.out);have cM:List.replicate j (-1:Int)++[-1]=List.replicate (j+1) (-1):=by rw[List.replicate_succ']
  have bp:=c7.1;simp only[cM,List.length_replicate]at bp;have HP:=kH bp
  have cW:Hid (Below w.heap.size w (w6.setCell ⟨D,4,none⟩ (.slice A6 (j+1) c6))):=kH (by
   have h5:=c7.2;simp only[List.length_replicate]at h5;have h6:Below w.heap.size (wr.alloc (.cells #[.int .i64 (-1)] 3)) (w6.setCell ⟨D,4,none⟩ (.slice A6 (j+1) c6)):=h5.toBelow (by have:=HB.out.size;simp;omega) (fun g hg=>hg)
   exact(HB.out.trans ((ai wr (.cells #[.int .i64 (-1)] 3)).mono HB.out.size)).trans h6)
  have cX:Hid (ah (w6.setCell ⟨D,4,none⟩ (.slice A6 (j+1) c6)) w.heap.size 24 #[.int .i64 k0,.string x0,.int .i64 a0,.int .i64 z0,.slice A n0 c]):=kH
   (((tK.out.alloc (.cells #[.int .i64 (-1)] 3)).grown xD.out (fun e1=>HO.out.bB tK.out (by decide) e1.symm)).far (p:=⟨D,4,none⟩) (by have:=af.out;show w.heap.size≠D;omega) _)
  clear cx c7 bp cM;go_roundg (gk - 1)
  case measure=>omega
  exact⟨j+1,A6,c6,by simp,by omega,HP,cW,cX⟩
 have dB:j=N:=by omega
 subst dB;have dq:¬((j:Int)<(j:Int)):=by omega
 have m0:=tK.out.cell 0;have m1:=tK.out.cell 1;have m2:=tK.out.cell 2;have m3:=tK.out.cell 3;have m4:=tK.out.cell 4;have lm:=tK.out.lt;have EN:=Ti D gg ff kk w.heap.size _ _ _ _ _ _ wr I.out.blk ⟨I.out.gl,I.out.fl,I.out.kn⟩ (by have:=af.out;omega) (by have:=af.out;have:=HB.out.size;omega) t A c (by rw[rV.out];omega) (aD.below HB.out (ab9 _) _ _ _ HK.out);rw[Hy.out]at EN;have cm:=kH EN;clear EN;go_wp2_with fail
 clear m0 m1 m2 m3 m4 lm;refine cm.out.mono ?_;rintro e3 w3 ⟨rfl,dm,cb⟩;have bl:=kH (I.out.collected cb dm);have Kk:=kH (tK.out.since cb (by have:=af.out;omega));have al:Hid (Below w.heap.size w w3):=kH (HB.out.trans (cb.toBelow HB.out.size (fun g hg=>by have:=af.out;omega)));have m0:=Kk.out.cell 0;have m1:=Kk.out.cell 1;have m2:=Kk.out.cell 2;have m3:=Kk.out.cell 3;have m4:=Kk.out.cell 4;have lm:=Kk.out.lt;obtain⟨W,K⟩:∃W:RS,(⟨[],List.replicate j (-1),[],[],0,0⟩:RS)=W:=⟨_,rfl⟩
 have cJ:RB W [] (aB t):=by
  rw[<- K,rV.out];exact⟨ab9 _,ab9 _,ab9 _,(fun x hx=>by cases hx),(by simp),(by simpa using hN)⟩
 obtain⟨E,hE⟩:∃E:RC,(⟨w.heap.size,D,gg,ff,kk,vi,A1,c1⟩:RC)=E:=⟨_,rfl⟩
 have LC:E.base=w.heap.size:=by rw[<- hE]
 have bu:E.rp=D:=by rw[<- hE]
 rw[K,hE]at bl;have xY:=Xp E (fC t) w.heap.size (by rw[LC];exact ab9 _) t false [] none [] W _ w3 A c bl.out ⟨rfl,rfl⟩ ⟨List.nodup_nil,fun m hm=>by cases hm⟩ (aD.below al.out (ab9 _) _ _ _ HK.out) bh.out (by rw[LC];exact al.out.size) RX.out cJ
 have ab:aZ t= { (aK (fC t) false t [] W).1 with uses:=(aK (fC t) false t [] W).1.uses.map (o5 (aK (fC t) false t [] W).1.ds),aP:=(aK (fC t) false t [] W).1.aP.map fun x=>(x.1,x.2.map (o5 (aK (fC t) false t [] W).1.ds)) }:=by
  unfold aZ;rw[rV.out,K]
 have Lg:=El (fC t) t false [] W;have br:=MI (fC t) t false [] W;have JR:=mQ (fC t) t false [] W;have v:=UQ (fC t) t false [] W (by rw[<- K];exact List.nodup_nil);obtain⟨R, hR⟩:=ag ((aK (fC t) false t [] W).1);rw[hR]at xY ab Lg br JR v;rw[rV.out]at br;have c9:W.next=0:=by rw[<- K]
 have J:R.ds.length<=1000000:=by
  have U:=Lg.ds;have h2:W.ds.length=0:=by rw[<- K];rfl
  omega
 have qo:R.aU.length<=1000000:=by
  have U:=Lg.aU;have h2:W.aU.length=0:=by rw[<- K];rfl
  omega
 have cI:R.uses.length=j:=by rw[Lg.qF,<- K];simp
 have a7:yu R.aU:=by
  obtain⟨l,e1,e2,-⟩:=JR.aU;rw[show W.aU=[] by rw[<- K],List.nil_append]at e1;rw[e1];exact e2
 rw[Hy.out,bu]at xY;have cr:=kH xY;have bG:=kH ab;have a6:=kH v;have au:=kH a7;have qQ:=kH J;have lW:=kH qo;have BJ:=kH cI;have V:Hid (E.base=w.heap.size/\E.rp=D/\E.vi=vi):=kH ⟨LC,bu,by rw[<- hE]⟩;clear xY ab v a7 Lg br JR cJ hR c9 J qo cI hE LC bu K bl cm;go_wp2_with fail
 clear m0 m1 m2 m3 m4 lm;refine cr.out.mono ?_;rintro e4 w4 ⟨rfl,Q,h4,-,k4⟩
 have Al:Hid (Below w.heap.size w w4):=kH (by
  have:=KX.low k4 (by rw[V.out.1];exact al.out.size);rw[V.out.1]at this
  exact al.out.trans this)
 have H4:=kH h4;clear h4 k4 cr Kk al tK HB I;have c3:w4.cell? ⟨D,3,none⟩=some (.slice Q.dA R.ds.length Q.dc):=by have:=H4.out.blk.cell 3;rw[V.out.2.1]at this;exact this
 have ec:D<w4.heap.size:=by have:=H4.out.blk.lt;rw[V.out.2.1]at this;exact this
 obtain⟨nd, J⟩:=ag R.ds.length;rw[J]at c3;have aq:=kH J;obtain⟨dA, bI⟩:=ag Q.dA;rw[bI]at c3;have cS:=kH bI;have dR:nd<=1000000:=by rw[<- J];exact qQ.out
 clear J bI;go_wp2_with (refine uW (KK:=iU) _ rfl _ _ _ 71 rfl 3 3 Tryz.underlying71 Tryz.underlying3 w4.heap.size [] (-1) (.int .i64 (-1)) rfl rfl rfl (aY.made w4) (ai w4 _) (ab9 _) ?_;intro w5 cG bw;have d3:w5.cell? ⟨D,3,none⟩=some (.slice dA nd Q.dc):=(bw.cell (p:=⟨D,3,none⟩) ec).trans c3;have cn:=kH cG;have kF:=kH bw;clear cG bw)
 clear c3 d3 dK;have cT:Hid (w.heap.size<=w4.heap.size):=kH Al.out.size;obtain⟨O, bM⟩:=ag w4.heap.size;rw[bM]at cn kF cT⊢;have bs:=kH bM;clear bM;go_loopg [46] nd (fun gk ed wr=> ∃i:Nat,ed= .int .i64 (i:Int)/\i+gk=nd/\Hid (aY iU wr O (uD (zL (R.ds.take i) 0 [(-1,-1)])))/\Hid (Below O w4 wr))
 case atStart=>exact⟨0,rfl,by omega,by have:=cn.out;rw[List.take_zero];exact kH this,kF⟩
 obtain⟨i,rfl,hi,HM,ZN⟩:=hrel;by_cases cE:i<nd
 ·have bP:(i:Int)<(nd:Int):=by omega
  have hw:IntKind.i64.wrap ((i:Int)+1)=(i:Int)+1:=IntWalk.i64_in _ (by omega);obtain⟨d,hd⟩:∃d,R.ds[i]? =some d:=⟨_,ace (by rw[aq.out];exact cE)⟩
  have X:Below w4.heap.size w4 wr:=by rw[bs.out];exact ZN.out
  have S:=(H4.out.ds.below X (fun g hg=>(H4.out.ds.lt g hg).2)).rowAt (cells:=bQ) (l:=R.ds) rfl rfl (fun c _=>rfl) rfl;rw[cS.out]at S;obtain⟨b,B,hA,b9,aw⟩:=S i d hd;subst hA;obtain⟨dk,dn,dv,dw⟩:=d;have t0:wr.cell? ⟨b,B+i*4,none⟩=some (.int .i64 dk):=by simpa using aw 0 _ rfl
  have t1:wr.cell? ⟨b,B+i*4+1,none⟩=some (.string dn):=by simpa using aw 1 _ rfl
  have t2:wr.cell? ⟨b,B+i*4+2,none⟩=some (.int .i64 dv):=by simpa using aw 2 _ rfl
  have t3:wr.cell? ⟨b,B+i*4+3,none⟩=some (.int .i64 dw):=by simpa using aw 3 _ rfl
  clear aw S X;obtain⟨w7,ca,bX,Cf,e9⟩:=iO (P:=Tryz.prog) (KK:=iU) (t:=71) (kt:=3) (et:=3) Tryz.underlying71 Tryz.underlying3 (HM.out.alloc (.cells #[.int .i64 dk,.string dn,.int .i64 dv,.int .i64 dw] 49)) dv (.int .i64 (i:Int));change (Instr.mapUpdate 71 (.map (some O)) (.int .i64 dv) (.int .i64 (i:Int))).run Tryz.prog (wr.alloc (.cells #[.int .i64 dk,.string dn,.int .i64 dv,.int .i64 dw] 49))=_ at ca;rw[PQ]at bX;have cN:ak (fun g=>g=O) (wr.alloc (.cells #[.int .i64 dk,.string dn,.int .i64 dv,.int .i64 dw] 49)) w7:=(ak.refl _ _).grown Cf (fun k hk=>by cases hk;exact .inl rfl);have aE:O<=wr.heap.size:=by have:=ZN.out.size;rw[bs.out]at this;exact this
  have sM:Hid (Below O w4 w7):=kH ((ZN.out.trans ((ai wr _).mono aE)).trans (cN.toBelow (by simp;omega) (fun g hg=>by omega)))
  have cU:Hid (aY iU w7 O (uD (zL (R.ds.take (i+1)) 0 [(-1,-1)]))):=kH (by
   rw[yU hd,NJ]
   have:0+(R.ds.take i).length=i:=by
    have:=(acg.1 hd).1;simp;omega
   rw[this]
   exact bX)
  clear bX Cf e9 cN aE hd;go_wp2_with fail
  go_roundg (gk - 1)
  case measure=>omega
  exact⟨i+1,by simp,by omega,cU,sM⟩
 have dy:i=nd:=by omega
 subst dy;have dq:¬((i:Int)<(i:Int)):=by omega
 have X:Below w4.heap.size w4 wr:=by rw[bs.out];exact ZN.out
 obtain⟨L, hL⟩:=ag (zL R.ds 0 [(-1,-1)]);have HF:Hid (∀u,(bK L u).getD 0=o5 R.ds u):=kH (fun u=>by rw[<- hL];rfl)
 have ZE:Hid (aY iU wr O (uD L)):=kH (by
  have:=HM.out;rw[List.take_of_length_le (by rw[aq.out];exact ab9 _),hL]at this
  exact this)
 obtain⟨F,hF⟩:∃F:Int->Int,o5 R.ds=F:=⟨_,rfl⟩
 rw[hF]at HF bG;have da:Hid (aQ E (fC t) { R with uses:=(R.uses.take 0).map F++R.uses.drop 0 } Q wr):=kH (H4.out.below X);have lY:Hid (Below w.heap.size w wr):=kH (Al.out.trans (X.mono Al.out.size));obtain⟨uA, cd⟩:=ag E.uA;obtain⟨uc, cf⟩:=ag E.uc
 have c4:wr.cell? ⟨D,4,none⟩=some (.slice uA j uc):=by
  have:=(H4.out.below X).blk.cell 4;rw[V.out.2.1]at this;rw[<- cd,<- cf,<- BJ.out];exact this
 have lr:D<wr.heap.size:=by have:=(H4.out.below X).blk.lt;rw[V.out.2.1]at this;exact this
 have Zw:Hid (E.uA=uA/\E.uc=uc):=kH ⟨cd,cf⟩;clear hL hF X cd cf HM ZN;go_wp2_with fail
 clear c4;go_loopg [61] j (fun gk ee wr=> ∃q:Nat,ee= .int .i64 (q:Int)/\q+gk=j/\Hid (aQ E (fC t) { R with uses:=(R.uses.take q).map F++R.uses.drop q } Q wr)/\Hid (aY iU wr O (uD L))/\Hid (Below w.heap.size w wr))
 case atStart=>exact⟨0,rfl,by omega,da,ZE,lY⟩
 obtain⟨q,rfl,hq,I,b5,HB⟩:=hrel;by_cases aa:q<j
 ·have O5:(q:Int)<(j:Int):=by omega
  have en:IntKind.i64.wrap ((q:Int)+1)=(q:Int)+1:=IntWalk.i64_in _ (by omega);obtain⟨u,hu⟩:∃u,R.uses[q]? =some u:=⟨_,ace (by rw[BJ.out];exact aa)⟩
  obtain⟨ad,n⟩:=PG (F:=F) hu;have cy:=I.out.below ((Below.refl _ wr).drew);have bb:((R.uses.take q).map F++R.uses.drop q).length=j:=by have:=BJ.out;simp;omega
  obtain⟨b,B,hA,b9,-,cz,T⟩:=cy.yH q (by show q<((R.uses.take q).map F++R.uses.drop q).length;rw[bb];exact aa) (fun _=>False);rw[Zw.out.1]at hA;subst hA;obtain⟨b',cj,bt,b3,-,-,VX,-,Y⟩:=I.out.us.form (by show 0<((R.uses.take q).map F++R.uses.drop q).length;rw[bb];omega);have cv:some (⟨b,B,none⟩:Addr)=some ⟨b',cj,none⟩:=by rw[<- Zw.out.1];injection b3
  simp only[acf,Addr.mk.injEq,and_true]at cv;obtain⟨rfl,rfl⟩:=cv;have cu:wr.cell? ⟨b,B+q,none⟩=some (.int .i64 u):=Y q _ (by show(bL ((R.uses.take q).map F++R.uses.drop q))[q]? =_;unfold bL;rw[List.getElem?_map,ad];rfl);have fu:wr.frozen? ⟨b,B+q,none⟩=false:=cz
  have c4:wr.cell? ⟨D,4,none⟩=some (.slice (some ⟨b,B,none⟩) j uc):=by
   have:=I.out.blk.cell 4;rw[V.out.2.1]at this;rw[<- Zw.out.1,<- Zw.out.2,<- bb];exact this
  have eb:D<wr.heap.size:=by have:=I.out.blk.lt;rw[V.out.2.1]at this;exact this
  have ep:b<wr.heap.size:=b9;have EH:=uh wr.drew O L b5.out.drew u;rw[HF.out u]at EH;have bN:O≠b:=fun e1=>b5.out.iM I.out.us (by rw[Zw.out.1];show some b=some O;rw[e1])
  have vF:=kH (T (F u));have bm:=kH n;have nQ:=kH VX;obtain⟨y, hy⟩:=ag (F u);rw[hy]at vF bm EH;have ei:q<j:=aa;clear ad n cy T Y b3 VX hu hy bb cz b9;go_wp2_with fail
  refine dF (fun w'=>w'.cell? ⟨D,4,none⟩=some (.slice (some ⟨b,B,none⟩) j uc)/\(Instr.lookup 71 (.map (some O)) (.int .i64 u) false).run Tryz.prog w'= .ok (.int .i64 y) w') [9] [true,true,true,true,true,true,true,true,true,false] (by kernel_rfl) (by kernel_rfl) rfl (by kernel_rfl) ?_;have cw:wr.drew.cell? ⟨D,4,none⟩=some (.slice (some ⟨b,B,none⟩) j uc)/\(Instr.lookup 71 (.map (some O)) (.int .i64 u) false).run Tryz.prog wr.drew= .ok (.int .i64 y) wr.drew:=⟨c4,EH⟩
  iterate 9(refine eD rfl cw (by intro w' de;obtain⟨ad,n⟩:=de;go_simp;rfl) ?_;simp only[Act.put,sA,sZ,sC])
  refine gH (w':=wr.drew.setCell ⟨b,B+q,none⟩ (.int .i64 y)) rfl (by go_simp) (by simp) ?_;refine gp ?_;simp only[Act.put]
  have R9:Hid (aQ E (fC t) { R with uses:=(R.uses.take (q+1)).map F++R.uses.drop (q+1) } Q (wr.drew.setCell ⟨b,B+q,none⟩ (.int .i64 y))):=kH (by
   have:=vF.out.1;rw[bm.out]at this
   exact this)
  have zC:Hid (aY iU (wr.drew.setCell ⟨b,B+q,none⟩ (.int .i64 y)) O (uD L)):=kH (b5.out.drew.setCell (p:=⟨b,B+q,none⟩) bN _);have iX:Hid (Below w.heap.size w (wr.drew.setCell ⟨b,B+q,none⟩ (.int .i64 y))):=kH ((HB.out.drew).setCell (p:=⟨b,B+q,none⟩) (by have:=nQ.out;rw[V.out.1]at this;exact this) _);clear cw EH c4 cu fu vF bm;go_wp2_with fail
  go_roundg (gk - 1)
  case measure=>omega
  exact⟨q+1,by simp,by omega,R9,zC,iX⟩
 have e0:q=j:=by omega
 subst e0;have dr:¬((q:Int)<(q:Int)):=by omega
 have c5:wr.cell? ⟨D,5,none⟩=some (.map (some vi)):=by
  have:=I.out.blk.cell 5;rw[V.out.2.1,V.out.2.2]at this;exact this
 have eb:D<wr.heap.size:=by have:=I.out.blk.lt;rw[V.out.2.1]at this;exact this
 have Le:=I.out.vi;rw[V.out.2.2]at Le;have Lr:Q.vals.map (·.1)=R.aP.map (·.1):=fJ.keys I.out.aP;obtain⟨w8,Yr,ax,lI,ea⟩:=Be (P:=Tryz.prog) (t:=72) (kt:=3) (et:=28) Tryz.underlying72 Le;have an:=kH ax
 have Hw:Hid (aQ E (fC t) { R with uses:=R.uses.map F,aP:=Ba F (fun _=>true) R.aP } Q w8):=kH (by
  have:=I.out.below lI;rw[List.take_of_length_le (by rw[BJ.out];exact ab9 _),List.drop_eq_nil_of_le (by rw[BJ.out];exact ab9 _),List.append_nil]at this;rw[UT]
  exact this)
 have cV:Hid (aY iU w8 O (uD L)):=kH (b5.out.Jm lI);have Cw:Hid (Below w.heap.size w w8):=kH (HB.out.trans (lI.mono HB.out.size));have b4:=kH Lr;have cg:=Le.lt;have ct:Hid (w.heap.size<=wr.heap.size):=kH HB.out.size;clear Le Lr ax lI ea;go_wp2_with fail
 obtain⟨it, zP⟩:=ag wr.heap.size;rw[zP]at an cg ct⊢;clear c5 zP;go_loopg [] R.aP.length (fun gk wx=> ∃(left:List (Value×Value)) (f:Int->Bool),gk=left.length/\Hid (ma iU wx vi it Q.vals left)/\Hid (aQ E (fC t) { R with uses:=R.uses.map F,aP:=Ba F f R.aP } Q wx)/\Hid (aY iU wx O (uD L))/\Hid (Below w.heap.size w wx)/\Hid ((left.map (·.1)).Nodup/\∀k∈R.aP.map (·.1),(f k=true↔Value.int .i64 k∈left.map (·.1))))
 case atStart=>
  refine⟨_,fun _=>true,?_,an,Hw,cV,Cw,kH ⟨?_,fun k hk=>?_⟩⟩
  ·have:=congrArg List.length b4.out
   simp at this;simp;omega
  ·rw[List.map_map]
   have e1:(Q.vals.map ((fun x=>x.1) ∘ fun x:Int×Value=>(iU.fQ x.1,x.2)))=(Q.vals.map (·.1)).map (fun k=>Value.int .i64 k):=by rw[List.map_map];rfl
   rw[e1,b4.out];exact List.Pairwise.map _ (fun a b dg e2=>dg (by injection e2)) a6.out
  rw[<- b4.out]at hk;obtain⟨y,hy,rfl⟩:=List.mem_map.1 hk;exact⟨fun _=>List.mem_map.2 ⟨_,List.mem_map.2 ⟨y,hy,rfl⟩,rfl⟩,fun _=>rfl⟩
 obtain⟨left,f,eh,HI,gJ,cq,OE,Ah⟩:=hrel;rcases CK (P:=Tryz.prog) 0 HI.out (by omega) with⟨dD,dT⟩| ⟨kv,vv,C,w9,r,b1,dT,ay,VL,cc,dp⟩
 ·subst dD
  have cQ:Ba F f R.aP=R.aP.map fun x=>(x.1,x.2.map F):=ZX (fun k hk=>by
   have h:=Ah.out.2 k hk
   cases hf:f k with
   | false=>rfl
   | true=>exact absurd (h.1 hf) (by simp))
  have S:=gJ.out.ps.rowAt (cells:=gW) (l:=R.aU) rfl rfl (fun c _=>rfl) rfl;obtain⟨np, qo⟩:=ag R.aU.length
  have c6:wr.cell? ⟨D,6,none⟩=some (.slice Q.pA np Q.pc):=by
   have:=gJ.out.blk.cell 6;rw[V.out.2.1]at this;rw[<- qo];exact this
  have pR:D<wr.heap.size:=by have:=gJ.out.blk.lt;rw[V.out.2.1]at this;exact this
  have b2:=Ms R.aU Q.pA np Q.pc wr qo S au.out (by rw[<- qo];exact lW.out);have bn:=kH b2;have dd:=kH cQ;clear cQ S qo b2;go_wp2_with fail
  refine bn.out.mono ?_;rintro eg eP ⟨rfl,Bu⟩;have bT:Hid (RI t w (.returned (.pointer (some ⟨D,0,none⟩))) eP):=kH ⟨E,Q,by rw[V.out.2.1],V.out.1,by rw[bG.out,<- dd.out];exact gJ.out.below Bu,OE.out.trans (Bu.mono OE.out.size)⟩;clear Bu c6;go_wp2_with fail
  go_ret
  exact bT.out
 obtain⟨y,hy,he⟩:=List.mem_map.1 b1;obtain⟨k1,v0⟩:=y;simp only[Prod.mk.injEq]at he;obtain⟨rfl,rfl⟩:=he;obtain⟨v1,v2,cP⟩:=List.append_of_mem hy;obtain⟨oa,ob,oc,od,ba⟩:=HI.out.obj;have Jb:=gJ.out.sinceO VL (fun g cs t fr hg e=>by subst e;rw[ba]at hg;cases hg) (fun g es ck hg e=>by subst e;rw[ba]at hg;cases hg);obtain⟨l1,lx,l2,xY,G,VF⟩:=Jb.setVis cP;have cC:k1∈R.aP.map (·.1):=by rw[<- b4.out];exact List.mem_map.2 ⟨_,hy,rfl⟩
 have bc:(left.map (·.1)).Perm (Value.int .i64 k1::C.map (·.1)):=r.map (·.1);have NS:f k1=true:=(Ah.out.2 k1 cC).2 (bc.mem_iff.2 (by simp));have a8:=Xq a6.out xY NS;obtain⟨A8,c8,Ce,bx,cH⟩:=G.shape;obtain⟨n8, c0⟩:=ag lx.length;rw[c0]at Ce G bx;subst Ce;have c2:n8<=maxLen:=aca bx cH;simp only[maxLen]at c2
 have az:O≠it:=fun e=>by
  obtain⟨es,ck,ho⟩:=cq.out.isMap;rw[e,ba]at ho;cases ho
 have cp:Hid (aY iU w9 O (uD L)):=kH (cq.out.since VL az);have F9:Hid (Below w.heap.size w w9):=kH (OE.out.trans (VL.toBelow OE.out.size (fun g e=>by rw[e];exact ct.out)))
 have bj:Hid ((C.map (·.1)).Nodup/\∀k∈R.aP.map (·.1),((f k&&decide (k≠k1))=true↔Value.int .i64 k∈C.map (·.1))):=kH (by
  have J:=bc.nodup_iff.1 Ah.out.1;rw[List.nodup_cons]at J;refine⟨J.2,fun k hk=>?_⟩;rw[acb,decide_eq_true_eq,Ah.out.2 k hk,bc.mem_iff,List.mem_cons];constructor
  ·rintro⟨U|U,h2⟩
   ·exact absurd (by injection U) h2
   exact U
  intro U
  exact⟨.inr U,fun e=>J.1 (by rw[<- e];exact U)⟩)
 have db:=kH a8;have bo:=kH VF;have ar:=kH G;have Si:=kH ay;have Mf:=kH r;have tL:=kH c0;have cl:Hid (E.base=w.heap.size/\w.heap.size<=w9.heap.size):=kH ⟨V.out.1,F9.out.size⟩;clear b1 hy cP ba Jb xY G VF cC bc NS a8 bx cH c0 az ay r VL cc;go_wp2_with fail
 obtain⟨go,du⟩:∃go:Nat,go=gk:=⟨_,rfl⟩
 subst du;obtain⟨wo,e5⟩:∃wo:World,wo=wr:=⟨_,rfl⟩
 subst e5;go_loopg [87] n8 (fun gk ef wy=> ∃H:Nat,ef= .int .i64 (H:Int)/\H+gk=n8/\Hid (aG wy E.base 3 1 (.slice A8 n8 c8) n8 (bL ((lx.take H).map F++lx.drop H)))/\Hid (ak (fun g=>(Value.slice A8 n8 c8).ownBlock=some g) w9 wy))
 case atStart=>exact⟨0,rfl,by omega,by simpa using ar,kH (ak.refl _ _)⟩
 obtain⟨H,rfl,ej,b6,Uv⟩:=hrel;have bZ:aY iU wr O (uD L):=cp.out.since Uv.out (fun U=>cp.out.iM ar.out U);have ao:=kH bZ;by_cases b0:H<n8
 ·have cF:(H:Int)<(n8:Int):=by omega
  have eo:IntKind.i64.wrap ((H:Int)+1)=(H:Int)+1:=IntWalk.i64_in _ (by omega);obtain⟨u,hu⟩:∃u,lx[H]? =some u:=⟨_,ace (by rw[tL.out];exact b0)⟩
  obtain⟨ad,n⟩:=PG (F:=F) hu;obtain⟨b,B,bt,b3,-,-,VX,b9,Y⟩:=b6.out.form (by omega);simp only[Value.slice.injEq,true_and]at b3;obtain⟨rfl,rfl⟩:=b3;have cu:wr.cell? ⟨b,B+H,none⟩=some (.int .i64 u):=Y H _ (by unfold bL;rw[List.getElem?_map,ad];rfl)
  have fu:wr.frozen? ⟨b,B+H,none⟩=false:=by
   obtain⟨cur,hc⟩:=b6.out.obj b rfl;simp[World.frozen?,hc]
  have EH:=uh wr O L ao.out u;rw[HF.out u]at EH;obtain⟨y, hy⟩:=ag (F u);rw[hy]at EH n;have T:=b6.out.set1 H b0 (.int .i64 y)
  have Uc:(bL ((lx.take H).map F++lx.drop H)).set H (.int .i64 y)=bL ((lx.take (H+1)).map F++lx.drop (H+1)):=by
   rw[<- n];simp[bL,List.map_set]
  rw[Uc]at T;have R9:=kH T;have zC:Hid (ak (fun g=>(Value.slice (some ⟨b,B,none⟩) n8 c8).ownBlock=some g) w9 (wr.setCell ⟨b,B+H,none⟩ (.int .i64 y))):=kH (Uv.out.setCell (p:=⟨b,B+H,none⟩) (.inl rfl) _);clear ad n VX Y hy T Uc hu bZ;go_wp2_with fail
  go_roundg (gk - 1)
  case measure=>omega
  exact⟨H+1,by simp,by omega,R9,zC⟩
 have FO:H=n8:=by omega
 subst FO;have dt:¬((H:Int)<(H:Int)):=by omega
 have R9:Hid (aQ E (fC t) { R with uses:=R.uses.map F,aP:=Ba F (fun j=>f j&&decide (j≠k1)) R.aP } Q wr):=kH (by
  rw[db.out];refine bo.out (lx.map F) wr ?_ Uv.out;have:=b6.out;rw[List.take_of_length_le (by rw[tL.out];exact ab9 _),List.drop_eq_nil_of_le (by rw[tL.out];exact ab9 _),List.append_nil]at this;rw[List.length_map,tL.out]
  exact this)
 have zC:Hid (ma iU wr vi it Q.vals C):=kH (Si.out.keep (Uv.out.block vi Si.out.sQ.lt (fun U=>Si.out.sQ.iM ar.out U)) (Uv.out.block it (by obtain⟨_,_,_,_,U⟩:=Si.out.obj;exact(acd.1 U).1) (fun U=>Si.out.iM ar.out U)));have iX:Hid (Below w.heap.size w wr):=kH (F9.out.trans (Uv.out.toBelow cl.out.2 (fun g hg=>by have:=(ar.out.lt g hg).1;rw[cl.out.1]at this;exact this)));clear bZ;go_wp2_with fail
 go_roundg (go - 1)
 case measure=>have h9:left.length=C.length+1:=Mf.out.length_eq;omega
 exact⟨C,fun j=>f j&&decide (j≠k1),by have h9:left.length=C.length+1:=Mf.out.length_eq;omega,zC,R9,ao,iX,bj⟩
def RJ(t:ae)(w:World)(e:Ending)(w':World):Prop:=
 (dC t=false/\e= .returned (.tuple #[.agg #[.slice none 0 0,.slice none 0 0],.slice none 0 0,.int .i64 1])/\Below w.heap.size w w') \/
 (dC t=true/\∃E V A n c,e= .returned (.tuple #[.agg #[.slice V.dA (aZ t).ds.length V.dc,.slice E.uA (aZ t).uses.length E.uc],.slice A n c,.int .i64 0])/\w.heap.size<=E.base/\aQ E (fC t) (aZ t) V w'/\n=(aZ t).aU.length/\aG w' w.heap.size 78 5 (.slice A n c) n ((aZ t).aU.flatMap fun p=>iN p.2)/\Below w.heap.size w w')
theorem aQ.farBlk{E:RC}{G:bf}{r:RS}{V:RV}{w w':World}{g:Nat}{t:TypeId}{P:Array Value}(h:aQ E G r V w)(H:ah w g t P)(C:t≠75)(O:t≠3)(Q:t≠49)(R:t≠80)(I:ak (fun x=>x=g) w w'):aQ E G r V w':=by
 have F:∀{K:Type} [DecidableEq K] {KK:nW K}{q:Nat}{m:List (K×Value)},aY KK w q m->aY KK w' q m:=fun D=>D.since I (fun C=>D.rX H C)
 have A:∀{e size v n xs},aG w E.base e size v n xs->t≠e->aG w' E.base e size v n xs:=fun D N=>D.since I (fun q B C=>D.bB H N.symm (by rw[B,C]))
 refine⟨h.blk.since I (fun e=>?_),F h.gl,F h.fl,F h.kn,F h.vi,fJ.of_block h.aP fun q cur B _=>I.block q (acd.1 B).1 fun e=>?_,A h.ds Q,A h.us O,A h.ps R,h.low,h.apart⟩
 ·have J:w.heap[E.rp]? =some (Obj.cells _ _ (0,0)):=h.blk
  have L:w.heap[g]? =some (Obj.cells _ _ (0,0)):=H;rw[e,L]at J;simp only[acf,Obj.cells.injEq]at J;exact C J.2.1
 have L:w.heap[g]? =some (Obj.cells _ _ (0,0)):=H;rw[e,L]at B;simp only[acf,Obj.cells.injEq]at B;exact O B.2.1
theorem news_dg(w:World)(g:Nat)(d:Dg)(B:w.cell? ⟨g,0,none⟩=some (.int .i64 d.code))(C:w.cell? ⟨g,1,none⟩=some (.int .i64 d.at_))(D:w.cell? ⟨g,2,none⟩=some (.int .i64 d.end_))(E:w.cell? ⟨g,3,none⟩=some (.string d.text))(F:w.cell? ⟨g,4,none⟩=some (.slice none 0 0)):
 ∀j v,(iN d)[j]? =some v->w.cell? ((⟨g,0,none⟩:Addr).add j)=some v:=by
 intro j v A
 match j,A with
 | 0,A=>cases A;exact B
 | 1,A=>cases A;simpa [Addr.add] using C
 | 2,A=>cases A;simpa [Addr.add] using D
 | 3,A=>cases A;simpa [Addr.add] using E
 | 4,A=>cases A;simpa [Addr.add] using F
 | j+5,A=>simp[iN]at A
theorem Tt(t:ae)(A:Option Addr)(c:Nat)(w:World)(hN:aB t<=1000000)(y:t.kids.length<=c)(hk:aD w w.heap.size A 0 t.kids):
 Calls Tryz.prog 12 #[aO t A c] w (RJ t w):=by
 obtain⟨k0,x0,a0,z0,n0,-,-,-,-,-,dH⟩:=aW t A c;obtain⟨i0,au,az,aE,b0⟩:=info_parts Uq;obtain⟨W1, Q⟩:=ag ((w.alloc (.cells #[.int .i64 k0,.string x0,.int .i64 a0,.int .i64 z0,.slice A n0 c] 24)).alloc (.cells #[.slice none 0 0,.slice none 0 0] 30));have B:ah W1 w.heap.size 24 #[.int .i64 k0,.string x0,.int .i64 a0,.int .i64 z0,.slice A n0 c]:=by rw[<- Q];exact(ah.new w _ _).alloc _
 have ad:ah W1 (w.heap.size+1) 30 #[.slice none 0 0,.slice none 0 0]:=by
  rw[<- Q];have:=ah.new (w.alloc (.cells #[.int .i64 k0,.string x0,.int .i64 a0,.int .i64 z0,.slice A n0 c] 24)) 30 #[.slice none 0 0,.slice none 0 0];simpa using this
 have T:Below w.heap.size w W1:=by rw[<- Q];exact(ai w _).trans ((ai _ _).mono (by simp))
 have D:=Oq t A c W1 (by omega) (aD.mono T.size _ _ _ (aD.below T (ab9 _) _ _ _ hk));rw[dH]at D⊢;obtain⟨vb, d⟩:=ag (dC t);rw[d]at D;have Hq:=kH D;have Ee:=kH d;have tK:=kH B;have dR:=kH ad;have a6:=kH T;have Hy:=kH dH;have a1:=kH y;have HK:=kH hk;have m0:=B.cell 0;have m1:=B.cell 1;have m2:=B.cell 2;have m3:=B.cell 3;have m4:=B.cell 4;have lm:=B.lt;clear D d B ad T dH y hk;go_in
 go_wp2_with fail
 clear Q m0 m1 m2 m3 m4 lm;refine Hq.out.mono ?_;rintro e2 w2 ⟨rfl,U⟩;have F:Hid (Below w.heap.size w w2):=kH (a6.out.trans (U.mono a6.out.size));have vJ:=kH (tK.out.below U tK.out.lt);have vH:=kH (dR.out.below U dR.out.lt);clear U
 cases vb with
 | false=>
  have r0:=vH.out.cell 0;have r1:=vH.out.cell 1;have g0:=vH.out.frozen 0;have g1:=vH.out.frozen 1;have lr:=vH.out.lt;go_wp2_with fail
  try simp only[Exit.inBlock,Exit.then]
  refine bodyPost_ret (v:=.tuple #[.agg #[.slice none 0 0,.slice none 0 0],.slice none 0 0,.int .i64 1]) (by simp[results,Tryz.results12,go_sem,r0,r1]) rfl ?_;exact .inl ⟨Ee.out,rfl,(F.out.setCell (p:=⟨w.heap.size+1,0,none⟩) (by show w.heap.size<=w.heap.size+1;omega) _).setCell (p:=⟨w.heap.size+1,1,none⟩) (by show w.heap.size<=w.heap.size+1;omega) _⟩
 | true=>
  have K:=SK t A c w2 (Xu Ee.out) hN a1.out (aD.mono F.out.size _ _ _ (aD.below F.out (ab9 _) _ _ _ HK.out));rw[Hy.out]at K;have bG:=kH K;have m0:=vJ.out.cell 0;have m1:=vJ.out.cell 1;have m2:=vJ.out.cell 2;have m3:=vJ.out.cell 3;have m4:=vJ.out.cell 4;have lm:=vJ.out.lt;clear K;go_wp2_with fail
  clear m0 m1 m2 m3 m4 lm;refine bG.out.mono ?_;rintro e3 N ⟨E,V,rfl,LC,uL,n⟩;have u:=kH (vH.out.below n vH.out.lt);have x:Hid (Below w.heap.size w N):=kH (F.out.trans (n.mono F.out.size));have af:Hid (w.heap.size<=E.base/\w.heap.size+1<N.heap.size):=kH ⟨by rw[LC];exact F.out.size,u.out.lt⟩;obtain⟨R, hR⟩:=ag (aZ t);rw[hR]at uL;have P:=kH hR;obtain⟨np, qo⟩:=ag R.aU.length
  have ay:np<=1000000:=by
   rw[<- qo,<- hR];have r:=(El (fC t) t false [] ⟨[],List.replicate (aB t) (-1),[],[],0,0⟩).aU;have h2:=MI (fC t) t false [] ⟨[],List.replicate (aB t) (-1),[],[],0,0⟩;show(aK (fC t) false t [] ⟨[],List.replicate (aB t) (-1),[],[],0,0⟩).1.aU.length<=_;generalize (aK (fC t) false t [] ⟨[],List.replicate (aB t) (-1),[],[],0,0⟩).1=Z at r h2⊢
   have h3:Z.aU.length+0<=0+Z.next:=r;have h4:Z.next<=0+aB t:=h2;omega
  obtain⟨pA, j⟩:=ag V.pA
  have c6:N.cell? ⟨E.rp,6,none⟩=some (.slice pA np V.pc):=by
   have:=uL.blk.cell 6;rw[<- qo,<- j];exact this
  have pR:=uL.blk.lt;have L:=uL.ps.rowAt (cells:=gW) (l:=R.aU) rfl rfl (fun c _=>rfl) rfl;rw[j]at L;have ao:=kH L;have an:=kH uL;have lW:=kH qo;clear hR qo j L uL n LC bG;go_wp2_with fail
  clear c6;go_loopg [6,20] np (fun gk s6 b1 wr=> ∃(i:Nat) (W:Option Addr) (z:Nat),b1= .int .i64 (i:Int)/\s6= .slice W i z/\i+gk=np/\Hid (aG wr N.heap.size 78 5 (.slice W i z) i ((R.aU.take i).flatMap fun p=>iN p.2))/\Hid (Below N.heap.size N wr))
  case atStart=>exact⟨0,none,0,rfl,rfl,by omega,kH (aG.nil _ _ _ _),kH (Below.refl _ _)⟩
  obtain⟨i,W,z,rfl,rfl,hi,HO,X⟩:=hrel;by_cases aw:i<np
  ·have ax:(i:Int)<(np:Int):=by omega
   have hw:IntKind.i64.wrap ((i:Int)+1)=(i:Int)+1:=IntWalk.i64_in _ (by omega);obtain⟨p,hp⟩:∃p,R.aU[i]? =some p:=⟨_,ace (by rw[lW.out];exact aw)⟩
   obtain⟨b,H,hA,wV,C⟩:=(ao.out.later X.out) i p hp;subst hA;have b2:b<wr.heap.size:=wV;have al:Hid ((R.aU.take (i+1)).flatMap (fun p=>iN p.2)=(R.aU.take i).flatMap (fun p=>iN p.2)++iN p.2):=kH (by rw[yU hp];simp);obtain⟨p1,p2,p3,p4,p5⟩:=p;have t0:wr.cell? ⟨b,H+i*6,none⟩=some (.int .i64 p1):=by simpa using C 0 _ rfl
   have t1:wr.cell? ⟨b,H+i*6+1,none⟩=some (.int .i64 p2):=by simpa using C 1 _ rfl
   have t2:wr.cell? ⟨b,H+i*6+2,none⟩=some (.int .i64 p3):=by simpa using C 2 _ rfl
   have t3:wr.cell? ⟨b,H+i*6+3,none⟩=some (.int .i64 p4):=by simpa using C 3 _ rfl
   have t4:wr.cell? ⟨b,H+i*6+4,none⟩=some (.string p5):=by simpa using C 4 _ rfl
   have t5:wr.cell? ⟨b,H+i*6+5,none⟩=some (.slice none 0 0):=by simpa using C 5 _ rfl
   clear C hp wV;go_wp2_with (at_builtin;go_must (refine dW _ rfl (.tmp 24) (.tmp 27) _ rfl N.heap.size 78 i0 _ 5 64 Tryz.underlying31 au az aE b0 rfl (.slice W i z) i ((R.aU.take i).flatMap fun p=>iN p.2) rfl ((HO.out.alloc _).alloc _) ⟨wr.heap.size+1,0,none⟩ 1 1 (iN ⟨p2,p3,p4,p5⟩) rfl rfl (news_dg _ _ _ (by go_simp) (by go_simp) (by go_simp) (by go_simp) (by go_simp)) (by simp[iN,Value.oneCell']) (by simp only[maxLen];omega) (by omega) (by have:=X.out.size;simp;omega) ?_);intro vn w6 J I ar;obtain⟨A6,c6,qj,-,-⟩:=J.shape;subst qj;have Y:=kH J;have xD:=kH I;clear J I ar)
   have R9:Hid (aG w6 N.heap.size 78 5 (.slice A6 (i+1) c6) (i+1) ((R.aU.take (i+1)).flatMap fun p=>iN p.2)):=kH (by rw[al.out];exact Y.out);have zC:Hid (Below N.heap.size N w6):=kH ((X.out.trans (((Below.refl _ wr).alloc (ab9 _) _ |>.alloc (by simp) _).mono X.out.size)).trans (((ak.refl (fun g=>N.heap.size<=g) _).grown xD.out (fun g hg=>.inl (HO.out.lt g hg).1)).toBelow (by have:=X.out.size;simp;omega) (fun g hg=>hg)));clear Y xD;go_roundg (gk - 1)
   case measure=>omega
   exact⟨i+1,A6,c6,by simp,rfl,by omega,R9,zC⟩
  have av:i=np:=by omega
  subst av;have b3:¬((i:Int)<(i:Int)):=by omega
  have G:=an.out.below X.out;have O:=u.out.below X.out u.out.lt;obtain⟨nd, m⟩:=ag R.ds.length;obtain⟨nu, k⟩:=ag R.uses.length;have c3:wr.cell? ⟨E.rp,3,none⟩=some (.slice V.dA nd V.dc):=by rw[<- m];exact G.blk.cell 3
  have c4:wr.cell? ⟨E.rp,4,none⟩=some (.slice E.uA nu E.uc):=by rw[<- k];exact G.blk.cell 4
  have lr:=G.blk.lt;have r0:=O.cell 0;have r1:=O.cell 1;have g0:=O.frozen 0;have g1:=O.frozen 1;have lb:=O.lt
  have b4:E.rp≠w.heap.size+1:=fun e=>by
   have r:wr.heap[E.rp]? =some (Obj.cells _ _ (0,0)):=G.blk;have h2:wr.heap[w.heap.size+1]? =some (Obj.cells _ _ (0,0)):=O;rw[e,h2]at r;simp at r
  have f:ak (fun g=>g=w.heap.size+1) wr ((wr.drew.setCell ⟨w.heap.size+1,0,none⟩ (.slice V.dA nd V.dc)).setCell ⟨w.heap.size+1,1,none⟩ (.slice E.uA nu E.uc)):=
   ak.setCell (S:=fun g=>g=w.heap.size+1) (ak.setCell (S:=fun g=>g=w.heap.size+1) ((ak.refl _ wr).drew) (p:=⟨w.heap.size+1,0,none⟩) (.inl rfl) _) (p:=⟨w.heap.size+1,1,none⟩) (.inl rfl) _
  have a8:=G.farBlk O (by decide) (by decide) (by decide) (by decide) f
  have a7:aG ((wr.drew.setCell ⟨w.heap.size+1,0,none⟩ (.slice V.dA nd V.dc)).setCell ⟨w.heap.size+1,1,none⟩ (.slice E.uA nu E.uc)) w.heap.size 78 5 (.slice W i z) i ((aZ t).aU.flatMap fun p=>iN p.2):=by
   have:=(HO.out.mono x.out.size).since f (fun q hq r=>HO.out.bB O (by decide) (by rw[hq,r]));rw[P.out];rw[List.take_of_length_le (by rw[lW.out];exact ab9 _)]at this;exact this
  have LF:Below w.heap.size w ((wr.drew.setCell ⟨w.heap.size+1,0,none⟩ (.slice V.dA nd V.dc)).setCell ⟨w.heap.size+1,1,none⟩ (.slice E.uA nu E.uc)):=
   ((((x.out.trans (X.out.mono x.out.size))).drew).setCell (p:=⟨w.heap.size+1,0,none⟩) (by show w.heap.size<=w.heap.size+1;omega) _).setCell (p:=⟨w.heap.size+1,1,none⟩) (by show w.heap.size<=w.heap.size+1;omega) _
  have ab:=(O.drew.dB 0 (.slice V.dA nd V.dc)).dB 1 (.slice E.uA nu E.uc);have F7:Hid (ah ((wr.drew.setCell ⟨w.heap.size+1,0,none⟩ (.slice V.dA nd V.dc)).setCell ⟨w.heap.size+1,1,none⟩ (.slice E.uA nu E.uc)) (w.heap.size+1) 30 #[.slice V.dA nd V.dc,.slice E.uA nu E.uc]):=kH (by simpa using ab)
  have bT:Hid (RJ t w (.returned (.tuple #[.agg #[.slice V.dA nd V.dc,.slice E.uA nu E.uc],.slice W i z,.int .i64 0])) ((wr.drew.setCell ⟨w.heap.size+1,0,none⟩ (.slice V.dA nd V.dc)).setCell ⟨w.heap.size+1,1,none⟩ (.slice E.uA nu E.uc))):=kH (by
   refine .inr ⟨Ee.out,E,V,W,i,z,by rw[P.out,m,k],af.out.1,by rw[P.out];exact a8,by rw[P.out,lW.out],a7,LF⟩)
  clear a8 a7 LF ab f m k G O;go_wp2_with fail
  refine dF (fun w'=>w'.cell? ⟨E.rp,3,none⟩=some (.slice V.dA nd V.dc)/\w'.cell? ⟨E.rp,4,none⟩=some (.slice E.uA nu E.uc)) [] [true,true,true,true,true,true,true,true,true,true,false,false,false] (by kernel_rfl) (by kernel_rfl) rfl (by kernel_rfl) ?_;have aa:wr.drew.cell? ⟨E.rp,3,none⟩=some (.slice V.dA nd V.dc)/\wr.drew.cell? ⟨E.rp,4,none⟩=some (.slice E.uA nu E.uc):=⟨c3,c4⟩
  iterate 10(refine eD rfl aa (by intro w' aq;obtain⟨b5,b6⟩:=aq;go_simp;rfl) ?_;simp only[Act.put,sA,sZ,sC])
  refine gH (w':=(wr.drew.setCell ⟨w.heap.size+1,0,none⟩ (.slice V.dA nd V.dc)).setCell ⟨w.heap.size+1,1,none⟩ (.slice E.uA nu E.uc)) rfl (by go_simp) (fun _=>⟨by go_simp,by go_simp⟩) ?_;simp only[Act.put];iterate 2(refine eu (w':=(wr.drew.setCell ⟨w.heap.size+1,0,none⟩ (.slice V.dA nd V.dc)).setCell ⟨w.heap.size+1,1,none⟩ (.slice E.uA nu E.uc)) rfl (by go_simp;rfl) (fun _=>⟨by go_simp,by go_simp⟩) ?_;simp only[Act.put,sA,sZ,sC])
  refine gp ?_;clear aa r0 r1 g0 g1 c3 c4;generalize (wr.drew.setCell ⟨w.heap.size+1,0,none⟩ (.slice V.dA nd V.dc)).setCell ⟨w.heap.size+1,1,none⟩ (.slice E.uA nu E.uc)=WZ at bT F7⊢
  have r0:=F7.out.cell 0;have r1:=F7.out.cell 1;go_wp2_with fail
  try simp only[Exit.inBlock,Exit.then]
  refine bodyPost_ret (v:=.tuple #[.agg #[.slice V.dA nd V.dc,.slice E.uA nu E.uc],.slice W i z,.int .i64 0]) (by simp[results,Tryz.results12,go_sem,r0,r1]) rfl ?_;exact bT.out
theorem Gc(w:World):(zeroValue 28).run Tryz.prog w= .ok (.slice none 0 0) w:=by go_simp
end Go.Proofs.YtoepemlnlpamlaaGreat
namespace Go.Proofs.YtoepemlnlpamlaaGreat
mutual
def F3:ae->Bool
 | .node k _ _ _ kids=>(decide (k<2) || decide (8<k))&&(decide (k≠12) || decide (kids.length=2))&&(decide (k≠16) || decide (kids.length=3))&&(decide (k=11) || kids.all fun c=>decide (c.kind≠12))&&su kids
def su:List ae->Bool
 | []=>true
 | t::ts=>F3 t&&su ts
end
theorem Cb{k:Int}{x:ByteArray}{a e:Int}{A:List ae}(h:F3 (.node k x a e A)=true):
 (k<2\/8<k)/\(k=12->A.length=2)/\(k=16->A.length=3)/\(k≠11->∀c∈A,c.kind≠12)/\su A=true:=by
 rw[F3]at h;simp only[acb,Bool.or_eq_true,decide_eq_true_eq,List.all_eq_true]at h;obtain⟨⟨⟨⟨B,C⟩,D⟩,E⟩,F⟩:=h;exact⟨B,fun e=>C.resolve_left (by simp[e]),fun e=>D.resolve_left (by simp[e]),fun e=>E.resolve_left e,F⟩
theorem RO{ts:List ae}:su ts=true->∀t∈ts,F3 t=true:=by
 induction ts with
 | nil=>intro _ t h;cases h
 | cons a ts ih=>
  intro h t A;rw[su,acb]at h;rcases List.mem_cons.1 A with rfl|A
  ·exact h.1
  exact ih h.2 t A
theorem WS(s:aR):lh s []=s:=by cases s<;>rfl
theorem Tq(s:aR)(l:lL):(lh s l).tail=s.tail:=by cases s<;>rfl
def wD(G:bf)(t:ae)(s:aR)(n:Nat):lL:=if (fF s t.text).isSome || (aV G.globals t.text).isSome then [] else [(t.text,(n:Int))]
theorem Bb(G:bf)(r:RS)(c:Int)(n:Nat)(t:ae)(s:aR):(aJ G r c n t ([]::s)).2.headD []=wD G t s n:=by
 unfold aJ wD;have h:fF ([]::s) t.text=fF s t.text:=rfl;rw[h];split<;>rfl
mutual
theorem IQ(G:bf):∀(t:ae) (i:Bool) (s:aR) (r:RS),F3 t=true->(aK G i t s r).2=if t.kind=12 then lh s (wD G t s r.next) else s
 | .node k x a e kids,i,s,r,hin=>by
  obtain⟨N,H,I,C,B⟩:=(Cb hin)
  have J:k≠3:=by omega
  have K:k≠4:=by omega
  have L:k≠5:=by omega
  have E:¬(k=7\/k=8):=by omega
  rw[dz];rw[if_neg J,if_neg K,if_neg L,if_neg E];show _=if k=12 then _ else _
  by_cases A:k=11
  ·rw[if_pos A,if_neg (show k≠12 by omega)]
   exact Ap G kids i 0 kids.length ([]::s) _ B
  rw[if_neg A];by_cases D:k=12
  ·rw[if_pos D,if_pos D]
   rw[jC G kids i 0 2 s _ B (C A),Bb]
  rw[if_neg D,if_neg D];by_cases F:k=16
  ·rw[if_pos F]
   show(aj G i kids 2 1 _ _).2.tail=s;rw[jC G kids i 2 1 _ _ B (C A),jC G kids i 0 2 s _ B (C A)];rfl
  rw[if_neg F];exact jC G kids i 0 kids.length s _ B (C A)
theorem jC(G:bf):∀(ts:List ae) (i:Bool) (f n:Nat) (s:aR) (r:RS),su ts=true->(∀c∈ts,c.kind≠12)->(aj G i ts f n s r).2=s
 | [],_,_,_,_,_,_,_=>by rw[aj]
 | t::ts,i,f+1,n,s,r,hin,hno=>by
  rw[su,acb]at hin;rw[aj]
  exact jC G ts i f n s r hin.2 fun c A=>hno c (by simp[A])
 | t::ts,i,0,0,s,r,_,_=>by rw[aj]
 | t::ts,i,0,n+1,s,r,hin,hno=>by
  rw[su,acb]at hin;rw[aj];rw[jC G ts i 0 n _ _ hin.2 fun c A=>hno c (by simp[A]),IQ G t i s r hin.1,if_neg (hno t (by simp))]
theorem Ap(G:bf):∀(ts:List ae) (i:Bool) (f n:Nat) (s:aR) (r:RS),su ts=true->(aj G i ts f n s r).2.tail=s.tail
 | [],_,_,_,_,_,_=>by rw[aj]
 | t::ts,i,f+1,n,s,r,hin=>by
  rw[su,acb]at hin;rw[aj];exact Ap G ts i f n s r hin.2
 | t::ts,i,0,0,s,r,_=>by rw[aj]
 | t::ts,i,0,n+1,s,r,hin=>by
  rw[su,acb]at hin;rw[aj];rw[Ap G ts i 0 n _ _ hin.2,IQ G t i s r hin.1];split
  ·exact Tq _ _
  rfl
end
theorem K4{K V:Type}[DecidableEq K]:∀{l:List (K×V)}{k:K},bK l k=none->k ∉ l.map (·.1)
 | [],_,_=>by simp
 | x::l,k,h=>by
  rw[bK]at h;by_cases A:k=x.1
  ·rw[if_pos A]at h;cases h
  rw[if_neg A]at h;rw[List.map_cons,List.mem_cons];exact fun B=>B.elim A (K4 h)
theorem LH:∀{s:aR}{x:ByteArray},fF s x=none->x ∉ s.flatten.map (·.1)
 | [],_,_=>by simp
 | l::s,x,h=>by
  rw[fF]at h
  cases A:aV l x with
  | some k=>rw[A]at h;cases h
  | none=>
   rw[A]at h;have B:=K4 (show bK l x=none from A);have C:=LH (show fF s x=none from h);rw[List.flatten_cons,List.map_append,List.mem_append];exact fun D=>D.elim B C
theorem PS{K V:Type}[DecidableEq K]:∀{l:List (K×V)}{k:K}(v:V),k ∉ l.map (·.1)->dZ l k v=l++[(k,v)]
 | [],_,_,_=>rfl
 | x::l,k,v,h=>by
  rw[List.map_cons,List.mem_cons]at h;have B:k≠x.1:=fun e=>h (.inl e)
  rw[dZ,if_neg B,PS v fun A=>h (.inr A)];rfl
theorem MF(r:RS)(i:Bool)(v:List Int):pz r (aI r i v):=qR.none_ r i v
theorem ME(G:bf)(r:RS)(i:Bool)(v:List Int)(c:Int)(t:ae)(s:aR):pz r (aJ G (aI r i v) c r.next t s).1:=qR.mR G r i v c t s
theorem Dw(r:RS)(i:Bool)(v:List Int)(t:ae)(A:Option Int):pz r (iw (aI r i v) r.next t A):=qR.En r i v t A
theorem Qa(G:bf)(s:aR)(r:RS)(i:Bool)(v:List Int)(t:ae):pz r (ik G s r (aI r i v) t):=by
 unfold ik;split
 ·exact Dw _ _ _ _ _
 split
 ·exact Dw _ _ _ _ _
 split
 ·exact Dw _ _ _ _ _
 split
 ·exact Dw _ _ _ _ _
 split
 ·exact Dw _ _ _ _ _
 exact MF _ _ _
theorem BO(G:bf)(s:aR)(r:RS)(i:Bool)(v:List Int)(t:ae):(ik G s r (aI r i v) t).next=r.next+1:=by
 have A:∀B,(iw (aI r i v) r.next t B).next=r.next+1:=fun B=>by cases B<;>rfl
 unfold ik;split
 ·exact A _
 split
 ·exact A _
 split
 ·exact A _
 split
 ·exact A _
 split
 ·exact A _
 rfl
theorem visit_B(G:bf)(k:Int)(x:ByteArray)(a e:Int)(A:List ae)(i:Bool)(s:aR)(r:RS)(I:F3 (.node k x a e A)=true):
 aK G i (.node k x a e A) s r=
  if k=11 then((aj G i A 0 A.length ([]::s) (aI r i (aF (aH s)))).1,s)
  else if k=12 then((aj G i A 0 A.length s (aJ G (aI r i (aF (aH s))) 4 r.next (.node k x a e A) ([]::s)).1).1,lh s (wD G (.node k x a e A) s r.next))
  else if k=16 then((aj G i A 2 1 (wD G (.node k x a e A) s r.next::s) (aj G i A 0 2 s (aJ G (aI r i (aF (aH s))) 5 r.next (.node k x a e A) ([]::s)).1).1).1,s)
  else((aj G i A 0 A.length s (ik G s r (aI r i (aF (aH s))) (.node k x a e A))).1,s):=by
 obtain⟨P,H,K,D,C⟩:=(Cb I)
 have L:k≠3:=by omega
 have N:k≠4:=by omega
 have O:k≠5:=by omega
 have J:¬(k=7\/k=8):=by omega
 rw[dz];rw[if_neg L,if_neg N,if_neg O,if_neg J];by_cases B:k=11
 ·rw[if_pos B,if_pos B]
  refine Prod.ext rfl ?_;exact Ap G A i 0 A.length ([]::s) _ C
 rw[if_neg B,if_neg B];by_cases E:k=12
 ·rw[if_pos E,if_pos E,H E]
  refine Prod.ext rfl ?_;show lh (aj G i A 0 2 s _).2 _=_;rw[jC G A i 0 2 s _ C (D B),Bb]
 rw[if_neg E,if_neg E];by_cases F:k=16
 ·rw[if_pos F,if_pos F]
  rw[jC G A i 0 2 s _ C (D B),Bb];refine Prod.ext rfl ?_;show(aj G i A 2 1 _ _).2.tail=s;rw[jC G A i 2 1 _ _ C (D B)];rfl
 rw[if_neg F,if_neg F];refine Prod.ext rfl ?_;exact jC G A i 0 A.length s _ C (D B)
def P8(p:Int->Bool):Prop:=∀k,p k=true->(k<2\/8<k)
def Ou(p:Int->Bool):Prop:=∀k,p k=true->k≠12
theorem MH:P8 bU:=fun k h=>by unfold bU at h;simp only[Bool.or_eq_true,decide_eq_true_eq]at h;omega
theorem p8_stmt:P8 kg:=fun k h=>by unfold kg at h;simp only[acb,decide_eq_true_eq]at h;omega
theorem xU:P8 aN:=fun k h=>by unfold aN at h;simp only[acb,decide_eq_true_eq]at h;omega
theorem JI:P8 iC:=fun k h=>by unfold iC at h;simp only[Bool.or_eq_true,decide_eq_true_eq]at h;omega
theorem wJ{p:Int->Bool}(h:P8 p):P8 (eU p):=fun k A=>by
 unfold eU at A;simp only[Bool.or_eq_true,decide_eq_true_eq]at A;rcases A with A|A
 ·omega
 exact h k A
theorem Dy{l:List Int}(h:∀y∈l,y<2\/8<y):P8 (bA l):=fun k A=>by
 unfold bA at A;rw[List.any_eq_true]at A;obtain⟨y,B,A⟩:=A;rw[decide_eq_true_eq]at A;subst A;exact h _ B
theorem JJ:Ou bU:=fun k h=>by unfold bU at h;simp only[Bool.or_eq_true,decide_eq_true_eq]at h;omega
theorem uZ:Ou aN:=fun k h=>by unfold aN at h;simp only[acb,decide_eq_true_eq]at h;omega
theorem Gy:Ou iC:=fun k h=>by unfold iC at h;simp only[Bool.or_eq_true,decide_eq_true_eq]at h;omega
theorem tY{p:Int->Bool}(h:Ou p):Ou (eU p):=fun k A=>by
 unfold eU at A;simp only[Bool.or_eq_true,decide_eq_true_eq]at A;rcases A with A|A
 ·omega
 exact h k A
theorem AX{l:List Int}(h:∀y∈l,y≠12):Ou (bA l):=fun k A=>by
 unfold bA at A;rw[List.any_eq_true]at A;obtain⟨y,B,A⟩:=A;rw[decide_eq_true_eq]at A;subst A;exact h _ B
theorem XD{k:Int}{sh:uM}(h:jB k=some sh)(B:k<2\/8<k):(∀p,sh.list=some p->P8 p/\(k≠11->Ou p))/\∀p∈sh.kids,P8 p/\Ou p:=by
 cases k with
 | negSucc n=>cases h
 | ofNat n=>
  have C:lT n=some sh:=h
  have E:n<2\/8<n:=by
   rcases B with B|B
   ·have:(n:Int)<2:=B
    omega
   have:(8:Int)<n:=B;omega
  have D:(Int.ofNat n≠11)->n≠11:=fun h e=>h (by rw[e];rfl)
  clear h B;unfold lT at C;split at C<;>first|(cases C;done)|(exfalso;omega)|skip
  all_goals
   cases C
   refine⟨?_,?_⟩
   ·intro p A
    first
     | (cases A;done)
     | (cases A;first|exact⟨xU,fun _=>uZ⟩|exact⟨p8_stmt,fun h=>absurd rfl (D h)⟩)
   intro p A
   first
    | (cases A;done)
    | (simp only[List.mem_cons,List.not_mem_nil,or_false]at A
       first
        | (rcases A with rfl|rfl|rfl<;>first|exact⟨xU,uZ⟩|exact⟨JI,Gy⟩|exact⟨Dy (by decide),AX (by decide)⟩|exact⟨wJ MH,tY JJ⟩|exact⟨wJ xU,tY uZ⟩|exact⟨wJ (Dy (by decide)),tY (AX (by decide))⟩)
        | (rcases A with rfl|rfl<;>first|exact⟨xU,uZ⟩|exact⟨JI,Gy⟩|exact⟨Dy (by decide),AX (by decide)⟩|exact⟨wJ MH,tY JJ⟩|exact⟨wJ xU,tY uZ⟩|exact⟨wJ (Dy (by decide)),tY (AX (by decide))⟩)
        | (subst A;first|exact⟨xU,uZ⟩|exact⟨JI,Gy⟩|exact⟨Dy (by decide),AX (by decide)⟩|exact⟨wJ MH,tY JJ⟩|exact⟨wJ xU,tY uZ⟩|exact⟨wJ (Dy (by decide)),tY (AX (by decide))⟩))
mutual
theorem Lc:∀(t:ae),eX t=true->(t.kind<2\/8<t.kind)->F3 t=true
 | .node k x a e kids,h,hk=>by
  rw[iZ,acb]at h;obtain⟨sh,N,L⟩:=fM h.1;obtain⟨-,E,O⟩:=jg L;have K:k<2\/8<k:=hk;have D:jB k=some sh:=N;obtain⟨I,J⟩:=XD D K;have C:=lM sh kids 0 O;rw[F3];simp only[acb,Bool.or_eq_true,decide_eq_true_eq,List.all_eq_true];refine⟨⟨⟨⟨K,?_⟩,?_⟩,?_⟩,I7 kids h.2 fun c E=>?_⟩
  ·by_cases G:k=12
   ·subst G
    right
    have:some _=some sh:=D;cases this
    simpa [oP,ae.kids] using E
   exact .inl G
  ·by_cases H:k=16
   ·subst H
    right
    have:some _=some sh:=D;cases this
    simpa [oP,ae.kids] using E
   exact .inl H
  ·by_cases F:k=11
   ·exact .inl F
   right
   intro c E;obtain⟨p,A,B⟩:=C c E;rcases A with A|A
   ·exact(I p A).2 F _ B
   exact(J p A).2 _ B
  obtain⟨p,A,B⟩:=C c E;rcases A with A|A
  ·exact(I p A).1 _ B
  exact(J p A).1 _ B
theorem I7:∀(ts:List ae),(bg ts).all dJ=true->(∀c∈ts,c.kind<2\/8<c.kind)->su ts=true
 | [],_,_=>by rw[su]
 | t::ts,h,hc=>by
  rw[bg,List.all_append,acb]at h;rw[su,acb];exact⟨Lc t h.1 (hc t (by simp)),I7 ts h.2 fun c A=>hc c (by simp[A])⟩
end
def vE(q:ae):Prop:=q.kids=[]/\(q.kind<2\/8<q.kind)/\q.kind<11
theorem Qt{q:ae}(h:vE q):F3 q=true:=by
 obtain⟨C,D,E⟩:=h;obtain⟨k,x,a,e,A⟩:=q;have G:A=[]:=C;subst G;have B:k<2\/8<k:=D;have F:k<11:=E;rw[F3];simp only[acb,Bool.or_eq_true,decide_eq_true_eq];exact⟨⟨⟨⟨B,.inl (by omega)⟩,.inl (by omega)⟩,.inr rfl⟩,by rw[su]⟩
theorem I5{q:ae}(h:eX q=true)(A:eU bU q.kind=true):vE q:=by
 rw[iZ,acb]at h;obtain⟨sh,B,E⟩:=fM h.1;obtain⟨-,C,-⟩:=jg E;unfold eU bU at A;simp only[Bool.or_eq_true,decide_eq_true_eq]at A;refine⟨?_,by omega,by omega⟩;rcases A with A|A|A
 all_goals
  rw[A]at B;have D:some _=some sh:=B;cases D
  have:q.kids.length=0:=by simpa [oP] using C
  exact List.length_eq_zero_iff.1 this
theorem Vd{p:ae}(h:eX p=true)(B:p.kind=7\/p.kind=8):∀q∈p.kids,vE q:=by
 have F:=fU h;rw[iZ,acb]at h;obtain⟨sh,E,H⟩:=fM h.1;obtain⟨-,-,I⟩:=jg H;intro q D;obtain⟨p1,A,C⟩:=lM _ p.kids 0 I q D;refine I5 (F q D) ?_;rcases B with B|B
 all_goals
  rw[B]at E;have G:some _=some sh:=E;cases G
  rcases A with A|A
  ·cases A
  simp only[List.mem_cons,List.not_mem_nil,or_false]at A;subst A;exact C
theorem KN{x:ByteArray}{a e:Int}{A:List ae}(h:eX (.node 5 x a e A)=true):
 ∃b c d,A=[b,c,d]/\b.kind=6/\(∀p∈b.kids,(p.kind=7\/p.kind=8)/\∀q∈p.kids,vE q)/\vE c/\d.kind=11/\F3 d=true:=by
 have F:=fU h;rw[iZ,acb]at h;obtain⟨sh,J,N⟩:=fM h.1;obtain⟨-,K,I⟩:=jg N;have L:some _=some sh:=J;cases L
 have S:A.length=3:=by simpa [oP,ae.kids] using K
 match A,S,I,F with
 | [b,c,d],_,I,F=>
  have D:dh ⟨bO,[bA [6],eU bU,bA [11]],none,0⟩ 0 [b,c,d]=true:=I;simp only[dh,jO,acb,ach,aci]at D;obtain⟨Q,K,R,-⟩:=D;have G:b.kind=6:=by simpa [bA] using Q
  have H:d.kind=11:=by simpa [bA] using R
  have E:=F b (by simp[ae.kids]);refine⟨b,c,d,rfl,G,fun p P=>?_,I5 (F c (by simp[ae.kids])) K,H,Lc d (F d (by simp[ae.kids])) (by omega)⟩;have O:=fU E p P
  have C:p.kind=7\/p.kind=8:=by
   rw[iZ,acb]at E;obtain⟨sh,J,N⟩:=fM E.1;obtain⟨-,-,I⟩:=jg N;rw[G]at J;have L:some _=some sh:=J;cases L
   obtain⟨p1,B,C⟩:=lM _ b.kids 0 I p P;rcases B with B|B
   ·cases B
    simpa [bA] using C
   cases B
  exact⟨C,Vd O C⟩
theorem K7:∀{l:List ae},(∀q∈l,vE q)->su l=true/\∀q∈l,q.kind≠12
 | [],_=>⟨by rw[su],by simp⟩
 | q::l,h=>by
  obtain⟨C,D⟩:=K7 (l:=l) fun u A=>h u (by simp[A])
  have B:=h q (by simp);refine⟨by rw[su,acb];exact⟨Qt B,C⟩,fun u A=>?_⟩;rcases List.mem_cons.1 A with rfl|A
  ·have:=B.2.2
   omega
  exact D u A
theorem JO:∀(ds:List Dc) (i:Nat) (l:List (Int×Int)) (u:Int),(ds.map (·.node)).Nodup->bK (zL ds i l) u=match ds.findIdx? fun d=>decide (d.node=u) with|some j=>some ((i+j:Nat):Int)|none=>bK l u
 | [],i,l,u,_=>by simp[zL]
 | d::ds,i,l,u,hn=>by
  rw[List.map_cons,List.nodup_cons]at hn;rw[zL,JO ds (i+1) _ u hn.2,List.findIdx?_cons];by_cases h:d.node=u
  ·have A:(ds.findIdx? fun d=>decide (d.node=u))=none:=by
    rw[List.findIdx?_eq_none_iff];intro y B;rw[decide_eq_false_iff_not];exact fun e=>hn.1 (by rw[h,<- e];exact List.mem_map.2 ⟨y,B,rfl⟩)
   rw[A,if_pos (by simp[h])];simp only;rw[pU,if_pos h.symm];rfl
  rw[if_neg (by simp[h])]
  cases C:ds.findIdx? fun d=>decide (d.node=u) with
  | none=>
   simp only[Option.map_none];rw[pU,if_neg (fun e=>h e.symm)]
  | some j=>
   simp only[Option.map_some];congr 2
   omega
theorem Bc{ds:List Dc}(D:(ds.map (·.node)).Nodup){j:Nat}{d:Dc}(E:ds[j]? =some d):o5 ds d.node=(j:Int):=by
 unfold o5;rw[JO ds 0 _ _ D]
 have F:(ds.findIdx? fun x=>decide (x.node=d.node))=some j:=by
  obtain⟨A,C⟩:=acg.1 E;rw[List.findIdx?_eq_some_iff_getElem];refine⟨A,by rw[C];simp,fun q G=>?_⟩;rw[decide_eq_true_eq];intro e;have B:=List.pairwise_iff_getElem.1 D q j (by simp;omega) (by simpa using A) G;simp only[List.getElem_map]at B;exact B (by rw[e,C])
 rw[F];simp
theorem UY{ds:List Dc}(B:(ds.map (·.node)).Nodup)(C:∀d∈ds,0<=d.node):o5 ds (-1)= -1:=by
 unfold o5;rw[JO ds 0 _ _ B]
 have A:(ds.findIdx? fun x=>decide (x.node= -1))=none:=by
  rw[List.findIdx?_eq_none_iff];intro y D;have:=C y D;simp;omega
 rw[A];rfl
theorem K6{V W:Type}(f:V->W):∀(l:List (Int×V)) (k:Int),bK (l.map fun x=>(x.1,f x.2)) k=(bK l k).map f
 | [],_=>rfl
 | x::l,k=>by
  rw[List.map_cons,bK,bK];by_cases h:k=x.1
  ·rw[if_pos h,if_pos h];rfl
  rw[if_neg h,if_neg h,K6 f l k]
theorem FE(x:ByteArray)(a e:Int)(ks:List ae):
 (aK (fC (.node 2 x a e ks)) false (.node 2 x a e ks) [] ⟨[],List.replicate (aB (.node 2 x a e ks)) (-1),[],[],0,0⟩).1=(aj (rG ks) false ks 0 ks.length [] ⟨[],List.replicate (aB (.node 2 x a e ks)) (-1),[],[],1,0⟩).1:=by
 simp only[aK];rfl
theorem Zi(s:aR):aH s=s.flatten.map (·.2):=by
 unfold aH;rw[List.flatMap_def,List.map_flatten]
theorem G7:∀{s:aR}{x:ByteArray}{n:Int},fF s x=some n->(x,n)∈s.flatten
 | [],_,_,h=>by cases h
 | l::s,x,n,h=>by
  rw[fF]at h;rw[List.flatten_cons,List.mem_append]
  have C:∀{l:lL}{n:Int},bK l x=some n->(x,n)∈l:=by
   intro l
   induction l with
   | nil=>intro n h;cases h
   | cons y l ih=>
    intro n h;rw[bK]at h;by_cases B:x=y.1
    ·rw[if_pos B,acf]at h
     rw[B,<- h];simp
    rw[if_neg B]at h;exact List.mem_cons_of_mem _ (ih h)
  cases A:aV l x with
  | some k=>
   rw[A]at h;simp only[acf]at h;subst h;exact .inl (C A)
  | none=>
   rw[A]at h;exact .inr (G7 h)
theorem XI{A q:RS}(h:pz A q)(B:A.ds=[]):(q.ds.map (·.node)).Nodup/\∀d∈q.ds,(A.next:Int)<=d.node:=by
 obtain⟨l,e,F,D⟩:=h.ds;rw[B,List.nil_append]at e;rw[e];refine⟨?_,fun d E=>(D d E).1⟩;refine List.Pairwise.map _ (fun a b C=>?_) F;omega
open Go.RowKit
section
variable {base ob:Nat}{M M':Nat->Prop}{w w1 w':World}
theorem ah.ne_of{g C:Nat}{t D:TypeId}{E A:Array Value}(h:ah w g t E)(G:ah w C D A)(H:t≠D):g≠C:=fun e=>by
 have B:w.heap[g]? =some (Obj.cells _ _ (0,0)):=h;have F:w.heap[C]? =some (Obj.cells _ _ (0,0)):=G;rw[e,F]at B;simp only[acf,Obj.cells.injEq]at B;exact H B.2.1.symm
end
theorem Pz{D:Type}{B C:List D}{k:Nat}{x y:D}(h:B.take k=C.take k)(E:B[k]? =some x)(F:C[k]? =some y)(A:x=y):B.take (k+1)=C.take (k+1):=by
 rw[List.take_add_one,List.take_add_one,h,E,F,A]
def D9(k1 k2:Int):Bool:=(k1==6&&(k2==1 || k2==2)) || (k1==5&&k2==3)
theorem LX(A C:Int)(E:ByteArray)(B D:Int)(F:ByteArray)(w:World):
 Calls Tryz.prog 242 #[.agg #[.int .i64 A,.int .i64 C,.string E],.agg #[.int .i64 B,.int .i64 D,.string F]] w fun e w'=>e= .returned (.bool (D9 A B))/\Below w.heap.size w w':=by
 go_in
 go_wp2
 all_goals
  go_ret
  exact⟨kS (by simp[D9, *]),((Below.refl _ _).alloc (ab9 _) _).alloc (by simp) _⟩
def vL(k l:Int)(r:ByteArray):Bool:=
 ((k==1 || k==2 || k==5 || k==6)&&(l==0&&r.toList.isEmpty)) ||
 ((k==3)&&(decide (1<=l)&&decide (l<=8)&&r.toList.isEmpty)) ||
 ((k==4)&&(l==0&& !r.toList.isEmpty))
theorem EC(A B:Int)(C:ByteArray)(w:World):
 Calls Tryz.prog 99 #[.agg #[.int .i64 A,.int .i64 B,.string C]] w fun e w'=>e= .returned (.bool (vL A B C))/\Below w.heap.size w w':=by
 go_in
 go_wp2
 all_goals
  go_ret
  refine⟨kS ?_,(Below.refl _ _).alloc (ab9 _) _⟩;simp_all (config:={ decide:=true }) [vL]
  try omega
def J7(k1 l1:Int)(r1:ByteArray)(k2 l2:Int)(r2:ByteArray):Bool:=k1==k2&&l1==l2&&r1.toList==r2.toList
def cZ(w:World)(g:Nat)(l:List Int):Prop:=w.heap[g]? =some (.cells (l.map (Value.int .i64)).toArray 3 (0,0))
section
variable {w w':World}{g:Nat}{l:List Int}
theorem cZ.lt(h:cZ w g l):g<w.heap.size:=(acd.1 h).1
theorem cZ.cell(h:cZ w g l){i:Nat}(A:i<l.length):w.cell? ⟨g,i,none⟩=some (.int .i64 (l.getD i 0)):=by
 rw[cell_of_row w g i _ _ (0,0) h];simp[ace A]
theorem cZ.frozen(h:cZ w g l)(i:Nat):w.frozen? ⟨g,i,none⟩=false:=by
 unfold cZ at h;simp[World.frozen?,h]
theorem cZ.keep(h:cZ w g l)(A:w'.heap[g]? =w.heap[g]?):cZ w' g l:=A.trans h
theorem cZ.alloc(h:cZ w g l)(o:Obj):cZ (w.alloc o) g l:=h.keep (Below.heap_alloc w o g h.lt)
theorem cZ.drew(h:cZ w g l):cZ w.drew g l:=h
theorem cZ.below{B:Nat}(h:cZ w g l)(A:Below B w w')(C:g<B):cZ w' g l:=h.keep (A.block g C)
theorem cZ.grown{A:Option Nat}(h:cZ w g l)(B:w.grownBy w' A)(C:some g≠A):cZ w' g l:=h.keep (B.block g h.lt C)
theorem cZ.set(h:cZ w g l)(i:Nat)(x:Int):cZ (w.setCell ⟨g,i,none⟩ (.int .i64 x)) g (l.set i x):=by
 unfold cZ at h⊢;simp[World.setCell,Array.getElem?_modify,h,List.map_set]
theorem cZ.new(w:World)(l:List Int):cZ (w.alloc (.cells (l.map (Value.int .i64)).toArray 3)) w.heap.size l:=heap_alloc_new w _
end
theorem IU(w:World)(b A n c:Nat):(binOp .eql 28 (.slice (some ⟨b,A,none⟩) n c) (.slice none 0 0)).run Tryz.prog w= .ok (.bool false) w:=
 Lib.run_eql_slice_nil w 28 3 (some ⟨b,A,none⟩) n c 0 0 Tryz.underlying28
theorem Mx(n:Nat)(G:n<=1000000)(w:World):
 (Instr.makeSlice 28 (.int .i64 (n:Int)) (.int .i64 (n:Int))).run Tryz.prog w= .ok (.slice (some ⟨w.heap.size,0,none⟩) n n) (w.alloc (.cells ((List.replicate n (0:Int)).map (Value.int .i64)).toArray 3)):=by
 obtain⟨F,A,B,C,D⟩:=info_parts mH;have h:=run_make (P:=Tryz.prog) w 28 3 F _ Tryz.underlying28 A B .i64 .i64 n n (by omega) (by omega) (by rw[D];omega) (by omega);rw[h];simp only[Int.toNat_natCast,C,Nat.mul_one]
 have E:madeCells (Value.int .i64 0).cells n=((List.replicate n (0:Int)).map (Value.int .i64)).toArray:=by
  apply Array.ext'
  show(madeCells #[Value.int .i64 0] n).toList=_;rw[toList_madeCells_one];simp
 rw[E]
theorem ZO(A:Option Addr)(n c:Nat)(l:List Int)(w:World)(S:l.length=n)(N:aS 1 (fun z=>[Value.int .i64 z]) w w.heap.size A l)(d:0<n)(t:n<=1000000):
 Calls Tryz.prog 168 #[.slice A n c] w fun e w'=> ∃v,e= .returned v/\aG w' w.heap.size 3 1 v n (bL l)/\Below w.heap.size w w':=by
 obtain⟨m,K,P,Q,R⟩:=info_parts mH;obtain⟨b,E,rfl,L,r⟩:=N 0 (l[0]'(by omega)) (ace (by omega))
 have C:∀j u,(bL l)[j]? =some u->w.cell? ⟨b,E+j,none⟩=some u:=by
  intro j u I;rw[List.getElem?_map]at I
  cases O:l[j]? with
  | none=>rw[O]at I;cases I
  | some z=>
   rw[O]at I;obtain⟨f,U,x,_,y⟩:=N j z O;cases x
   have:=y 0 u I;simpa using this
 have T:∀w:World,(binOp .eql 28 (.slice (some ⟨b,E,none⟩) n c) (.slice none 0 0)).run Tryz.prog w= .ok (.bool false) w:=fun w=>IU w _ _ n c
 have D:aG (w.alloc (.cells #[] 3)) w.heap.size 3 1 (.slice (some ⟨w.heap.size,0,none⟩) 0 0) 0 []:=
  aG.block (n:=0) (cur:=#[]) (ab9 _) (heap_alloc_new w _) (by simp[maxLen]) rfl
 have B:∀j u,(bL l)[j]? =some u->(w.alloc (.cells #[] 3)).cell? ((⟨b,E,none⟩:Addr).add j)=some u:=fun j u I=>by
  rw[Addr.add_lit,World.cell?_alloc_lt _ _ _ L];exact C j u I
 have F:(bL l).length=n*1:=by simp[S]
 have G:∀u∈bL l,u.oneCell'=true:=by
  intro u q;obtain⟨z,_,rfl⟩:=List.mem_map.1 q;rfl
 have W:=kH B;have X:=kH F;have Y:=kH D;have V:=kH G;clear C B N F D G r S;go_in
 go_wp2_with (at_builtin;refine dW _ rfl (.tmp 5) (.tmp 6) _ rfl w.heap.size 3 m _ 1 8 Tryz.underlying28 K P Q R rfl (.slice (some ⟨w.heap.size,0,none⟩) 0 0) 0 [] rfl Y.out ⟨b,E,none⟩ n c (bL l) rfl X.out W.out V.out (by simp only[maxLen];omega) (by omega) (by simp) ?_;intro k w1 J H Z)
 go_ret
 exact⟨k,rfl,by simpa using J,((Below.refl _ _).alloc (ab9 _) _).grown H (by simp) (by simp[Value.ownBlock])⟩
end Go.Proofs.YtoepemlnlpamlaaGreat
namespace Go.Proofs.YtoepemlnlpamlaaGreat
structure dS where
 fQ:Nat
 dD:Nat
deriving DecidableEq
def jh(v:Nat)(s:List Int×List Nat)(e:dS):List Int×List Nat:=
 if s.1.getD e.dD 0<0 then(s.1.set e.dD (s.1.getD v 0+1),s.2++[e.dD]) else s
def Hg(E:List (List dS)):Nat->List Int->List Nat->List Int
 | 0,out,_=>out
 | _+1,out,[]=>out
 | f+1,out,v::rest=>Hg E f ((E.getD v []).foldl (jh v) (out,rest)).1 ((E.getD v []).foldl (jh v) (out,rest)).2
def neg(out:List Int):Nat:=out.countP (fun x=>decide (x<0))
def mr(out:List Int)(l:List Nat):List Int:=l.foldl (fun o v=>o.set v 0) out
def ji(E:List (List dS))(n:Nat)(from_:List Nat):List Int:=Hg E (from_.length+n) (mr (List.replicate n (-1)) from_) from_
theorem EW(l:List Int)(i j:Nat)(x d:Int)(A:i<l.length):(l.set i x).getD j d=if i=j then x else l.getD j d:=by
 simp only[List.getD_eq_getElem?_getD,List.getElem?_set];by_cases h:i=j
 ·subst h;simp[A]
 simp[h]
theorem TR{l:List Int}{i:Nat}{x:Int}(A:i<l.length)(B:l.getD i 0<0)(D:0<=x):neg (l.set i x)+1=neg l:=by
 induction l generalizing i with
 | nil=>simp at A
 | cons y ys ih=>
  cases i with
  | zero=>
   simp[neg,List.countP_cons]at*;have C:¬x<0:=by omega
   simp[C,B]
  | succ i=>
   simp only[aco,Nat.add_lt_add_iff_right,List.getD_cons_succ]at A B;have:=ih A B;simp only[neg,sC,List.countP_cons]at*;omega
structure Fs (n:Nat) (b:Int) (v:Nat) (s:List Int×List Nat):Prop where
 len:s.1.length=n
 lo:∀x∈s.1,-1<=x
 hi:∀x∈s.1,x<=b+1
 v0:0<=s.1.getD v 0
 v1:s.1.getD v 0<=b
 todo:∀u∈s.2,u<n/\0<=s.1.getD u 0
theorem Fs.step{n:Nat}{b:Int}{v:Nat}{s:List Int×List Nat}(h:Fs n b v s){e:dS}(F:e.dD<n):
 Fs n b v (jh v s e)/\(jh v s e).2.length+neg (jh v s e).1=s.2.length+neg s.1:=by
 unfold jh;by_cases A:s.1.getD e.dD 0<0
 ·rw[if_pos A]
  have G:e.dD<s.1.length:=by rw[h.len];exact F
  have H:=h.v0;have E:=fun j=>EW s.1 e.dD j (s.1.getD v 0+1) 0 G
  have D:e.dD≠v:=by rintro rfl;omega
  refine⟨⟨by simp[h.len],fun x C=>?_,fun x C=>?_,?_,?_,fun u B=>?_⟩,?_⟩
  ·rcases List.mem_or_eq_of_mem_set C with C|rfl
   ·exact h.lo x C
   omega
  ·rcases List.mem_or_eq_of_mem_set C with C|rfl
   ·exact h.hi x C
   have:=h.v1;omega
  ·rw[E,if_neg D];exact h.v0
  ·rw[E,if_neg D];exact h.v1
  ·rcases List.mem_append.1 B with B|B
   ·refine⟨(h.todo u B).1,?_⟩
    show 0<=(s.1.set e.dD (s.1.getD v 0+1)).getD u 0;rw[E];split
    ·omega
    exact(h.todo u B).2
   simp at B;subst B;refine⟨F,?_⟩;show 0<=(s.1.set e.dD (s.1.getD v 0+1)).getD e.dD 0;rw[E,if_pos rfl];omega
  have:=TR (x:=s.1.getD v 0+1) G A (by omega);show(s.2++[e.dD]).length+neg (s.1.set e.dD (s.1.getD v 0+1))=_;rw[acm,List.length_singleton];omega
 rw[if_neg A];exact⟨h,rfl⟩
theorem Fs.fold{n:Nat}{b:Int}{v:Nat}(A:List dS):∀{s:List Int×List Nat},Fs n b v s->(∀e∈A,e.dD<n) ->
 Fs n b v (A.foldl (jh v) s)/\(A.foldl (jh v) s).2.length+neg (A.foldl (jh v) s).1=s.2.length+neg s.1:=by
 induction A with
 | nil=>exact fun h _=>⟨h,rfl⟩
 | cons e A ih=>
  intro s h B;have C:=h.step (B e (by simp));have D:=ih C.1 (fun e E=>B e (by simp[E]));exact⟨D.1,D.2.trans C.2⟩
structure Fu (n K:Nat) (out:List Int) (todo:List Nat):Prop where
 len:out.length=n
 lo:∀x∈out,-1<=x
 hi:∀x∈out,x+(todo.length+neg out:Nat)<=K
 todo:∀u∈todo,u<n/\0<=out.getD u 0
theorem EX{l:List Int}{i:Nat}(h:i<l.length):l.getD i 0∈l:=by
 rw[List.getD_eq_getElem?_getD,ace h];exact List.getElem_mem h
theorem Fu.good{n K:Nat}{out:List Int}{v:Nat}{rest:List Nat}(h:Fu n K out (v::rest)):Fs n (K - (rest.length+1+neg out:Nat):Int) v (out,rest):=by
 have A:=h.todo v (by simp);have B:=h.hi _ (EX (l:=out) (i:=v) (by rw[h.len];exact A.1));simp only[aco]at B;refine⟨h.len,h.lo,fun x D=>?_,A.2,?_,fun u C=>h.todo u (by simp[C])⟩
 ·have:=h.hi x D
  simp only[aco]at this;omega
 show out.getD v 0<=_;omega
theorem Fs.fair{n K:Nat}{out:List Int}{v:Nat}{rest:List Nat}{s:List Int×List Nat}(h:Fs n (K - (rest.length+1+neg out:Nat):Int) v s)(B:s.2.length+neg s.1=rest.length+neg out):Fu n K s.1 s.2:=
 ⟨h.len,h.lo,fun x A=>by have:=h.hi x A;omega,h.todo⟩
theorem Cu{E:List (List dS)}{n K:Nat}{out:List Int}{v:Nat}{rest:List Nat}(h:Fu n K out (v::rest))(F:∀es∈E,∀e∈es,e.dD<n):
 Hg E ((v::rest).length+neg out) out (v::rest)=
  Hg E (((E.getD v []).foldl (jh v) (out,rest)).2.length+neg ((E.getD v []).foldl (jh v) (out,rest)).1) ((E.getD v []).foldl (jh v) (out,rest)).1 ((E.getD v []).foldl (jh v) (out,rest)).2:=by
 have B:∀e∈E.getD v [],e.dD<n:=by
  intro e A;rw[List.getD_eq_getElem?_getD]at A
  cases C:E[v]? with
  | none=>rw[C]at A;simp at A
  | some es=>rw[C]at A;exact F es (acn C) e A
 have D:=h.good.fold (E.getD v []) B;rw[D.2,aco,show rest.length+1+neg out=(rest.length+neg out)+1 by omega];rfl
theorem Eb(E:List (List dS))(f:Nat)(out:List Int):Hg E f out []=out:=by cases f<;>rfl
theorem sH{A β:Type}(f:β->A->β)(b:β)(l:List A)(k:Nat)(x:A)(h:l[k]? =some x):(l.take (k+1)).foldl f b=f ((l.take k).foldl f b) x:=by
 rw[List.take_add_one,h,List.foldl_append];rfl
theorem Gb(l:List Nat):∀out:List Int,(mr out l).length=out.length:=by
 induction l with
 | nil=>exact fun _=>rfl
 | cons v l ih=>intro out;exact(ih _).trans (by simp)
theorem YX(n k:Nat)(x y:Int)(h:k<n):(List.replicate k x++List.replicate (n - k) y).set k x=List.replicate (k+1) x++List.replicate (n - (k+1)) y:=by
 have e:n - k=(n - (k+1))+1:=by omega
 rw[e,List.replicate_succ,List.set_append];simp[List.replicate_succ',List.append_assoc]
theorem UH(out:List Int)(l:List Nat)(k v:Nat)(h:l[k]? =some v):mr out (l.take (k+1))=(mr out (l.take k)).set v 0:=sH _ _ _ _ _ h
theorem FJ(n:Nat):neg (List.replicate n (-1))=n:=by simp[neg,List.countP_replicate]
theorem Ko(n:Nat)(F:List Nat)(E:∀u∈F,u<n):∀out:List Int,out.length=n->(∀x∈out,-1<=x/\x<=0) ->
 (∀x∈mr out F,-1<=x/\x<=0)/\(∀u,0<=out.getD u 0\/u∈F->0<=(mr out F).getD u 0)/\neg (mr out F)<=neg out:=by
 induction F with
 | nil=>exact fun out _ h=>⟨h,fun u A=>by simpa [mr] using A,ab9 _⟩
 | cons v F ih=>
  intro out G h;have B:v<out.length:=by rw[G];exact E v (by simp)
  have H:∀x∈out.set v 0,-1<=x/\x<=0:=fun x D=>by
   rcases List.mem_or_eq_of_mem_set D with D|rfl
   ·exact h x D
   omega
  obtain⟨a,b,c⟩:=ih (fun u A=>E u (by simp[A])) (out.set v 0) (by simpa using G) H;refine⟨a,fun u A=>b u ?_,aca c ?_⟩
  ·rw[EW out v u 0 0 B]
   by_cases e:v=u
   ·left;simp[e]
   rcases A with A|A
   ·left;simpa [e] using A
   rcases List.mem_cons.1 A with A|A
   ·exact absurd A.symm e
   exact .inr A
  by_cases J:out.getD v 0<0
  ·have:=TR (x:=0) B J (by omega)
   omega
  have I:out.set v 0=out:=by
   have K:=h _ (EX B);have C:out.getD v 0=0:=by omega
   apply List.ext_getElem?
   intro i;rw[List.getElem?_set];split
   ·rename_i e
    subst e;rw[List.getD_eq_getElem?_getD,ace B]at C;simp at C;simp[ace B,C]
   rfl
  rw[I];exact ab9 _
theorem AB(n:Nat)(F:List Nat)(B:∀u∈F,u<n):Fu n (F.length+n) (mr (List.replicate n (-1)) F) F:=by
 obtain⟨a,b,c⟩:=Ko n F B (List.replicate n (-1)) (by simp) (by intro x A;have:=List.eq_of_mem_replicate A;omega);rw[FJ]at c;exact⟨by rw[Gb];simp,fun x A=>(a x A).1,fun x A=>by have:=(a x A).2;omega,fun u C=>⟨B u C,b u (.inr C)⟩⟩
theorem abG{E:List (List dS)}{n:Nat}(I:∀es∈E,∀e∈es,e.dD<n):∀(m K f:Nat) (out:List Int) (A:List Nat),A.length+neg out=m->Fu n K out A->m<=f->Hg E f out A=Hg E m out A:=by
 intro m
 induction m using Nat.strongRecOn with
 | _ m ih=>
  intro K f out A J h O
  cases A with
  | nil=>rw[Eb,Eb]
  | cons v rest=>
   have N:=Cu h I
   have D:∀e∈E.getD v [],e.dD<n:=by
    intro e B;rw[List.getD_eq_getElem?_getD]at B
    cases H:E[v]? with
    | none=>rw[H]at B;simp at B
    | some es=>rw[H]at B;exact I es (acn H) e B
   have C:=h.good.fold (E.getD v []) D;have F:=C.1.fair C.2;rw[<- J,N];simp only[aco]at J;obtain⟨f,rfl⟩:∃L,f=L+1:=⟨f - 1,by omega⟩
   have G:=C.2;simp only at G;exact ih _ (by omega) K f _ _ rfl F (by omega)
theorem Db(E:List (List dS))(n:Nat)(F:List Nat)(B:∀es∈E,∀e∈es,e.dD<n)(A:∀u∈F,u<n):
 Hg E (F.length+neg (mr (List.replicate n (-1)) F)) (mr (List.replicate n (-1)) F) F=ji E n F:=by
 have h:=AB n F A;have D:=(Ko n F A (List.replicate n (-1)) (by simp) (by intro x C;have:=List.eq_of_mem_replicate C;omega)).2.2;rw[FJ]at D;exact(abG B _ _ _ _ _ rfl h (by omega)).symm
open Go.RowKit
def j5(e:dS):List Value:=[.int .i64 e.fQ,.int .i64 e.dD]
def pQ(z:Nat):List Value:=[.int .i64 (z:Int)]
def uu(w:World)(B:Nat)(AE:Option Addr)(E:List (List dS)):Prop:=
 ∀v es,E[v]? =some es->∃b off Ai c,AE=some ⟨b,off,none⟩/\b<B/\w.cell? ⟨b,off+v,none⟩=some (.slice Ai es.length c)/\aS 2 j5 w B Ai es
theorem uu.below{w w':World}{B A:Nat}{F:Option Addr}{E:List (List dS)}(h:uu w B F E)(G:Below A w w')(K:B<=A):uu w' B F E:=by
 intro v I O;obtain⟨b,D,H,c,J,C,L,N⟩:=h v I O;exact⟨b,D,H,c,J,C,(G.cell (p:=⟨b,_,none⟩) (by show b<A;omega)).trans L,N.below G K⟩
theorem uu.mono{w:World}{B D:Nat}{C:Option Addr}{E:List (List dS)}(h:uu w B C E)(I:B<=D):uu w D C E:=by
 intro v G N;obtain⟨b,A,F,c,H,K,J,L⟩:=h v G N;exact⟨b,A,F,c,H,by omega,J,L.mono I⟩
theorem aS.ofNats{w:World}{B:Nat}{A:Option Addr}{F:List Nat}(h:aS 1 pQ w B A F):aS 1 (fun z=>[Value.int .i64 z]) w B A (F.map fun x:Nat=>(x:Int)):=by
 intro k c C;rw[List.getElem?_map]at C
 cases D:F[k]? with
 | none=>rw[D]at C;cases C
 | some z=>
  rw[D]at C;cases C
  exact h k z D
theorem aG.tail{w:World}{base:Nat}{e:TypeId}{g B n A:Nat}{x:Value}{E:List Value}(h:aG w base e 1 (.slice (some ⟨g,B,none⟩) (n+1) A) (n+1) (x::E)):
 aG w base e 1 (if A=1 then .slice (some ⟨g,B,none⟩) n (A - 1) else .slice (some ⟨g,B+1,none⟩) n (A - 1)) n E:=by
 have G:=h.1;refine⟨by simpa using G,?_⟩;rcases h.2 with⟨D,_⟩| ⟨P,N,F,cur,D,I,K,R,Q,S,L⟩
 ·cases D
 cases D
 by_cases J:A=1
 ·subst J
  have C:n=0:=by omega
  subst C;have O:E=[]:=List.eq_nil_of_length_eq_zero (by simpa using G);subst O;rw[if_pos rfl];exact .inr ⟨g,B,0,cur,rfl,I,K,ab9 _,by omega,by omega,by simp⟩
 rw[if_neg J];refine .inr ⟨g,B+1,A - 1,cur,rfl,I,K,by omega,by omega,by omega,?_⟩;rw[Nat.mul_one]at L⊢;have H:=congrArg List.tail L;rw[List.tail_cons]at H;rw[<- H,<- List.drop_one,List.drop_take,List.drop_drop];rfl
theorem aab(g B n A:Nat)(w:World):
 (Instr.slice 28 (.slice (some ⟨g,B,none⟩) (n+1) A) (some (.int .i64 1)) none none).run Tryz.prog w=
  .ok (if A=1 then .slice (some ⟨g,B,none⟩) n (A - 1) else .slice (some ⟨g,B+1,none⟩) n (A - 1)) w:=by
 obtain⟨H,C,F,D,G⟩:=info_parts mH;have:=Mw (P:=Tryz.prog) w 28 3 H Tryz.underlying28 C (some ⟨g,B,none⟩) (n+1) A 1 (by omega);rw[show((1:Nat):Int)=1 from rfl]at this;rw[this];by_cases E:A=1
 ·simp[E]
 simp[E,D,Addr.add]
theorem zT(lv mv:Value)(AE:Option Addr)(n cE:Nat)(E:List (List dS))(AF:Option Addr)(O cf:Nat)(F:List Nat)(w:World)
 (hE:uu w w.heap.size AE E) (b0:E.length=n) (b2:∀es∈E,∀e∈es,e.dD<n) (b1:∀es∈E,es.length<=1000000) (hF:aS 1 pQ w w.heap.size AF F) (b4:F.length=O) (bt:0<O) (b5:∀u∈F,u<n)
 (hn:n<=5000) (ck:O<=5000):
 Calls Tryz.prog 100 #[.agg #[lv,.slice AE n cE,mv],.slice AF O cf] w fun e w'=>
  ∃g,e= .returned (.slice (some ⟨g,0,none⟩) n n)/\w.heap.size<=g/\cZ w' g (ji E n F)/\Below w.heap.size w w':=by
 obtain⟨i0,bw,bX,bZ,c0⟩:=info_parts mH;have cj:=Mx n (by omega);have HE:=kH hE;have bk:=kH b0;have j:=kH b2;have bl:=kH b1;have HF:=kH hF;have ZJ:=kH b4;have d:=kH b5;clear hE b0 b2 b1 hF b4 b5;go_in
 go_wp2_with fail
 generalize Z:w.alloc (.cells #[lv,.slice AE n cE,mv] 153)=W0
 have z:W0.heap.size=w.heap.size+1:=by rw[<- Z];simp
 have zh:Below w.heap.size w W0:=by rw[<- Z];exact ai w _
 have b8:W0.cell? ⟨w.heap.size,1,none⟩=some (.slice AE n cE):=by rw[<- Z];simp
 have az:Below (w.heap.size+1) W0 (W0.alloc (.cells (Array.replicate n (Value.int IntKind.i64 0)) 3)):=by
  have:=ai W0 (.cells (Array.replicate n (Value.int IntKind.i64 0)) 3);rwa [z]at this
 have a7:cZ (W0.alloc (.cells (Array.replicate n (Value.int IntKind.i64 0)) 3)) (w.heap.size+1) (List.replicate n 0):=by
  have:=cZ.new W0 (List.replicate n 0);rw[z]at this;simpa using this
 have aw:=kH a7;have vU:=kH z;have bn:=kH b8;clear a7 z b8 Z;go_loopg [19] n (fun gk i wr=> ∃k:Nat,k+gk=n/\i= .int .i64 k/\cZ wr (w.heap.size+1) (List.replicate k (-1)++List.replicate (n - k) 0)/\Below (w.heap.size+1) W0 wr)
 case atStart=>exact⟨0,by omega,rfl,by simpa using aw.out,az⟩
 clear aw az;obtain⟨k,S,rfl,J,G⟩:=hrel;have ao:k<=n:=by omega
 have N:=kH S;clear S;by_cases D:k<n
 ·have aa:=J.cell (i:=k) (by simp;omega)
  have bc:=J.frozen k;go_wp2_with fail
  go_roundg (gk - 1)
  case measure=>have:=N.out;omega
  refine⟨k+1,by have:=N.out;omega,by go_num,?_,G.setCell (by simp) _⟩;have:=J.set k (-1);rw[YX n k _ _ D]at this;exact this
 have I:k=n:=by omega
 have P:cZ wr (w.heap.size+1) (List.replicate n (-1)):=by
  subst I;simpa using J
 have W:=kH P;clear P J I N;have L:Below w.heap.size w wr:=zh.trans (G.mono (by omega));go_wp2_with fail
 refine(ZO AF O cf (F.map fun x:Nat=>(x:Int)) wr (by simp[ZJ.out]) ((HF.out.below L (ab9 _)).mono L.size).ofNats bt (by omega)).mono ?_;rintro e w1 ⟨tv,rfl,K,a8⟩;have bM:=vU.out;have aE:Below (w.heap.size+1) W0 w1:=G.trans (a8.mono (by have:=G.size;omega));have P:cZ w1 (w.heap.size+1) (List.replicate n (-1)):=W.out.below a8 (W.out.lt);have b7:aG w1 (w.heap.size+2) 3 1 tv O (bL (F.map fun x:Nat=>(x:Int))):=K.mono (by have:=W.out.lt;omega);clear K a8 G L W bM ao D;go_wp2_with fail
 go_loopg [30] O (fun gk i wr=> ∃k:Nat,k+gk=O/\i= .int .i64 k/\cZ wr (w.heap.size+1) (mr (List.replicate n (-1)) (F.take k))/\Below (w.heap.size+1) W0 wr/\aG wr (w.heap.size+2) 3 1 tv O (bL (F.map fun x:Nat=>(x:Int))))
 case atStart=>exact⟨0,by omega,rfl,by simpa [mr] using P,aE,b7⟩
 clear P aE b7 w1;obtain⟨k,S,rfl,J,G,K⟩:=hrel;have ao:k<=O:=by omega
 have N:=kH S;have C:=kH J;have U:=kH K;clear S J K;have L:Below w.heap.size w wr:=zh.trans (G.mono (by omega));by_cases D:k<O
 ·have NR:k<F.length:=by rw[ZJ.out];exact D
  have hu:F[k]? =some F[k]:=ace NR;obtain⟨fb,a1,hA,FR,bb⟩:=(HF.out.below L (ab9 _)) k _ hu;subst hA;have c9:wr.cell? ⟨fb,a1+k,none⟩=some (.int .i64 (F[k]:Int)):=by simpa using bb 0 _ rfl
  have cl:F[k]<n:=d.out _ (List.getElem_mem NR);have c1:(mr (List.replicate n (-1)) (F.take k)).length=n:=by rw[Gb];simp
  have aa:=C.out.cell (i:=F[k]) (by omega);have bc:=C.out.frozen F[k];have HU:=kH hu;clear bb c1 hu;generalize F[k]=u at*
  go_wp2_with fail
  go_roundg (gk - 1)
  case measure=>have:=N.out;omega
  refine⟨k+1,by have:=N.out;omega,by go_num,?_,G.setCell (by simp) _,U.out.setCell ?_ _⟩
  ·rw[UH _ _ _ _ HU.out]
   exact C.out.set u 0
  intro e;have:=(U.out.lt _ e).1;simp at this
 have I:k=O:=by omega
 have b6:cZ wr (w.heap.size+1) (mr (List.replicate n (-1)) F):=by
  have:=C.out;rwa [I,<- ZJ.out,List.take_length]at this
 have ax:=kH b6
 have X:Hid (aG wr (w.heap.size+2) 3 1 tv F.length (bL (F.map fun x:Nat=>(x:Int)))):=by
  have:=U.out;rw[<- ZJ.out]at this;exact this
 clear b6 C U I N ao;go_wp2_with fail
 clear D;go_loopg [7] (F.length+neg (mr (List.replicate n (-1)) F)) (fun gk v wr=> ∃out B,B.length+neg out=gk/\Fu n (F.length+n) out B/\cZ wr (w.heap.size+1) out/\Below (w.heap.size+1) W0 wr/\aG wr (w.heap.size+2) 3 1 v B.length (bL (B.map fun x:Nat=>(x:Int)))/\Hg E (B.length+neg out) out B=ji E n F)
 case atStart=>
  exact⟨_,F,rfl,AB n F d.out,ax.out,G,X.out,Db E n F j.out d.out⟩
 clear ax X L G;obtain⟨out,B,S,Q,J,G,K,t⟩:=hrel;have bm:=kH S;have C:=kH J;have HB:=kH t;have V:=kH Q;clear S J t Q
 cases B with
 | nil=>
  obtain⟨A,c,rfl,_,_⟩:=K.shape;clear K;simp only[List.length_nil];go_wp2_with fail
  go_ret
  refine⟨w.heap.size+1,rfl,by omega,?_,zh.trans (G.mono (by omega))⟩;have:=HB.out;rw[Eb]at this;rw[<- this];exact C.out
 | cons x rest=>
  obtain⟨tg,UW,Y,rfl,b9,c8,cb,cc,y⟩:=K.form (by simp);simp only[aco]at b9;have bp:wr.cell? ⟨tg,UW,none⟩=some (.int .i64 (x:Int)):=by simpa using y 0 _ rfl
  have gN:=aG.tail K;have bd:=aab tg UW rest.length Y;generalize (if Y=1 then Value.slice (some ⟨tg,UW,none⟩) rest.length (Y - 1) else Value.slice (some ⟨tg,UW+1,none⟩) rest.length (Y - 1))=tv2 at bd gN
  have X:=kH gN;clear y K gN;have hx:=V.out.todo x (by simp);have bT:x<n:=hx.1;have au:x<E.length:=by rw[bk.out];exact bT
  have al:E[x]? =some E[x]:=ace au;obtain⟨eb,ay,Ai,ci,hA,br,r,ba⟩:=HE.out x _ al;subst hA;have bs:=((zh.trans (G.mono (Nat.le_succ _))).cell (p:=⟨eb,ay+x,none⟩) br).trans r;clear r;have bu:wr.cell? ⟨w.heap.size,1,none⟩=some (.slice (some ⟨eb,ay,none⟩) n cE):=(G.cell (p:=⟨w.heap.size,1,none⟩) (by simp)).trans bn.out;simp only[aco];go_wp2_with fail
  have H:=V.out.good;have ca:E[x].length<=1000000:=bl.out _ (List.getElem_mem au);have af:∀e∈E[x],e.dD<n:=j.out _ (List.getElem_mem au);have b3:E.getD x []=E[x]:=by rw[List.getD_eq_getElem?_getD,al];rfl
  have b:=Cu V.out j.out;rw[b3]at b;have q:=H.fold E[x] af;have HG:=kH H;have ZK:=kH af;have HR:=kH b;have bj:=kH ba;have f:=kH q;clear H af b ba q b3 al bs bu bd;generalize E[x]=es at*
  go_loopg [52,7] es.length (fun bo i v wx=> ∃k:Nat,k+bo=es.length/\i= .int .i64 k/\cZ wx (w.heap.size+1) ((es.take k).foldl (jh x) (out,rest)).1/\Below (w.heap.size+1) W0 wx /\
   aG wx (w.heap.size+2) 3 1 v ((es.take k).foldl (jh x) (out,rest)).2.length (bL (((es.take k).foldl (jh x) (out,rest)).2.map fun x:Nat=>(x:Int))))
  case atStart=>exact⟨0,by omega,rfl,by simpa using C.out,G,by simpa using X.out⟩
  obtain⟨k,S,rfl,J,a6,K⟩:=hrel;have cg:k<=es.length:=by omega
  have N:=kH S;have C:=kH J;have U:=kH K;clear S J K;by_cases D:k<es.length
  ·have ad:es[k]? =some es[k]:=ace D
   have Rb:Below w.heap.size w wr:=zh.trans (a6.mono (by omega));obtain⟨ib,QB,hA,cd,an⟩:=(bj.out.below Rb (ab9 _)) k _ ad;subst hA;have c7:wr.cell? ⟨ib,QB+k*2,none⟩=some (.int .i64 (es[k].fQ:Int)):=an 0 _ rfl;have b9:wr.cell? ⟨ib,QB+k*2+1,none⟩=some (.int .i64 (es[k].dD:Int)):=an 1 _ rfl;have MO:es[k].dD<n:=ZK.out _ (List.getElem_mem D);have m:=(HG.out.fold (es.take k) (fun e he=>ZK.out e (List.mem_of_mem_take he))).1;have T:=sH (jh x) (out,rest) es k _ ad;have HS:=kH T;have c2:=kH m;have aq:=m.len;have aa:=C.out.cell (i:=es[k].dD) (by omega);have y:=C.out.cell (i:=x) (by omega);have bc:=C.out.frozen es[k].dD;have bx:=m.lo _ (EX (l:=(List.foldl (jh x) (out,rest) (List.take k es)).1) (i:=es[k].dD) (by omega));have bN:=m.v0;have bP:=m.v1;have c4:((F.length+n:Nat):Int)<=10000:=by have:=ZJ.out;omega
   have bB:w.heap.size+1<wr.heap.size:=C.out.lt;have bG:ib<wr.heap.size:=by have:=C.out.lt;omega
   have bI:(List.foldl (jh x) (out,rest) (List.take k es)).2.length<=10000:=by
    have h1:=(HG.out.fold (es.take k) (fun e he=>ZK.out e (List.mem_of_mem_take he))).2;have h2:=V.out.hi x;have h3:=m.v0;simp only at h1;omega
   clear an ad T m aq;generalize es[k]=ed at*
   generalize List.foldl (jh x) (out,rest) (List.take k es)=s at*
   obtain⟨dx, Aa⟩:=ag (s.1.getD x 0);obtain⟨dt, ab⟩:=ag (s.1.getD ed.dD 0);rw[Aa]at y bN bP;rw[ab]at aa bx;have bh:=kH Aa;have av:=kH ab;clear Aa ab;by_cases hd:dt<0
   ·go_wp2_with fail
    go_region
    have hp:u7.ownBlock≠some (w.heap.size+1):=fun e=>by have:=(U.out.lt _ e).1;omega
    have c5:=U.out;have a7:=C.out;go_wp2_with (at_builtin;go_must (refine dW _ rfl (.tmp 71) (.tmp 74) _ rfl (w.heap.size+2) 3 i0 _ 1 8 Tryz.underlying28 bw bX bZ c0 rfl u7 s.2.length (bL (s.2.map fun x:Nat=>(x:Int))) rfl (by(repeat (first|assumption|refine aG.drew ?_|refine aG.drewN ?_ _|refine aG.alloc ?_ _|refine aG.setCell ?_ (by assumption) _))) ⟨wr.heap.size+1,0,none⟩ 1 1 [.int .i64 (ed.dD:Int)] rfl rfl (lU _ _ _ (by go_simp)) (by simp[Value.oneCell']) (by simp only[maxLen];omega) (by omega) (by simp;omega) ?_);intro v' w1 ar R c6)
    go_roundg (gk - 1)
    case measure=>have:=N.out;omega
    refine⟨k+1,by have:=N.out;omega,by go_num,?_⟩;rw[HS.out,show jh x s ed=_ from if_pos (by rw[av.out];exact hd),bh.out];refine⟨cZ.grown (by(repeat (first|assumption|refine cZ.drew ?_|refine cZ.drewN ?_ _|refine cZ.alloc ?_ _|refine cZ.set ?_ _ _|refine cZ.far ?_ (by first|assumption|omega|(simp;omega)) _))) R (fun e=>hp e.symm),Below.grown (by(repeat first|exact .refl _ _|assumption|refine .trans ?_ (.mono (by assumption) ?_)|refine .alloc ?_ ?_ _|refine .setCell ?_ ?_ _|refine .drew ?_|refine aL ?_ _|omega|(simp<;>omega))) R (by simp;omega) (fun g e=>by have:=(U.out.lt _ e).1;omega),?_⟩;simpa using ar
   go_wp2_with fail
   go_roundg (gk - 1)
   case measure=>have:=N.out;omega
   refine⟨k+1,by have:=N.out;omega,by go_num,?_⟩;rw[HS.out,show jh x s ed=s from if_neg (by rw[av.out];omega)];exact⟨C.out.alloc _,a6.alloc (by omega) _,U.out.alloc _⟩
  have I:k=es.length:=by omega
  subst I;rw[List.take_length]at*;go_wp2_with fail
  go_roundg ((es.foldl (jh x) (out,rest)).2.length+neg (es.foldl (jh x) (out,rest)).1)
  case measure=>
   have h1:=bm.out;have h2:=f.out.2;simp only[aco]at h1 h2;omega
  refine⟨_,_,rfl,f.out.1.fair f.out.2,?_,a6,?_,HR.out.symm.trans HB.out⟩
  ·exact C.out
  exact U.out
end Go.Proofs.YtoepemlnlpamlaaGreat
