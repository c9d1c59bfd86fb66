/- Collect agrees with the reference. Part 8: KExcl KGraph Col1 Path Get Col2 Col3 Awk2 LawF Std2 Std4 Copy Col4 Col5. -/
import Derived.Test.YtoepemlnlpamlaaGreatColl07
set_option maxRecDepth 100000
set_option maxHeartbeats 4000000
namespace Go.Proofs.YtoepemlnlpamlaaGreat
open Go.RowKit
def Cn(k1 l1:Int)(r1:ByteArray)(k2 l2:Int)(r2:ByteArray):Bool:=
 vL k1 l1 r1&&vL k2 l2 r2&& !J7 k1 l1 r1 k2 l2 r2&& !D9 k1 k2&& !D9 k2 k1
theorem PY(A C:Int)(E:ByteArray)(B D:Int)(F:ByteArray)(w:World):
 (binOp .neq 108 (.agg #[.int .i64 A,.int .i64 C,.string E]) (.agg #[.int .i64 B,.int .i64 D,.string F])).run Tryz.prog w= .ok (.bool (!J7 A C E B D F)) w:=by
 by_cases G:A=B<;>by_cases H:C=D<;>by_cases I:E.toList=F.toList<;>(simp only[J7];go_simp)
theorem Tu(E H:Int)(J:ByteArray)(F I:Int)(K:ByteArray)(w:World):
 Calls Tryz.prog 223 #[.agg #[.int .i64 E,.int .i64 H,.string J],.agg #[.int .i64 F,.int .i64 I,.string K]] w fun e w'=>e= .returned (.bool (Cn E H J F I K))/\Below w.heap.size w w':=by
 have y:=PY E H J F I K;go_in
 go_wp2_with fail
 refine(EC _ _ _ _).mono ?_;rintro e w1 ⟨rfl,B⟩;obtain⟨S,W⟩:=AO B;have L:=B.size;try simp at L
 cases O:vL E H J
 ·go_wp2_with fail
  go_ret
  exact⟨kS (by simp[Cn,O]),by(repeat first|exact .refl _ _|assumption|refine .trans ?_ (.mono (by assumption) ?_)|refine .alloc ?_ ?_ _|refine .setCell ?_ ?_ _|refine .drew ?_|refine aL ?_ _|omega|(simp<;>omega))⟩
 go_wp2_with fail
 refine(EC _ _ _ _).mono ?_;rintro e x ⟨rfl,A⟩;have C:=B.trans (A.mono B.size);clear A;obtain⟨T,X⟩:=AO C;have M:=C.size;try simp at M
 cases P:vL F I K
 ·go_wp2_with fail
  go_ret
  exact⟨kS (by simp[Cn,P]),by(repeat first|exact .refl _ _|assumption|refine .trans ?_ (.mono (by assumption) ?_)|refine .alloc ?_ ?_ _|refine .setCell ?_ ?_ _|refine .drew ?_|refine aL ?_ _|omega|(simp<;>omega))⟩
 cases Q:J7 E H J F I K
 ·go_wp2_with fail
  refine(LX _ _ _ _ _ _ _).mono ?_;rintro e v ⟨rfl,A⟩;have D:=C.trans (A.mono C.size);clear A;obtain⟨U,Y⟩:=AO D;have N:=D.size;try simp at N
  cases R:D9 E F
  ·go_wp2_with fail
   refine(LX _ _ _ _ _ _ _).mono ?_;rintro e u ⟨rfl,A⟩;have G:=D.trans (A.mono D.size);clear A;obtain⟨V,z⟩:=AO G;have Z:=G.size;try simp at Z
   go_wp2_with fail
   go_ret
   exact⟨kS (by simp[Cn,O,P,Q,R]),by(repeat first|exact .refl _ _|assumption|refine .trans ?_ (.mono (by assumption) ?_)|refine .alloc ?_ ?_ _|refine .setCell ?_ ?_ _|refine .drew ?_|refine aL ?_ _|omega|(simp<;>omega))⟩
  go_wp2_with fail
  go_ret
  exact⟨kS (by simp[Cn,R]),by(repeat first|exact .refl _ _|assumption|refine .trans ?_ (.mono (by assumption) ?_)|refine .alloc ?_ ?_ _|refine .setCell ?_ ?_ _|refine .drew ?_|refine aL ?_ _|omega|(simp<;>omega))⟩
 go_wp2_with fail
 go_ret
 exact⟨kS (by simp[Cn,Q]),by(repeat first|exact .refl _ _|assumption|refine .trans ?_ (.mono (by assumption) ?_)|refine .alloc ?_ ?_ _|refine .setCell ?_ ?_ _|refine .drew ?_|refine aL ?_ _|omega|(simp<;>omega))⟩
structure bD where
 kind:Int
 a:Int
 b:Int
 tk:Int
 tl:Int
 tr:ByteArray
 at_:Int
 end_:Int
def aT(c:bD):List Value:=[.int .i64 c.kind,.int .i64 c.a,.int .i64 c.b,.int .i64 c.tk,.int .i64 c.tl,.string c.tr,.int .i64 c.at_,.int .i64 c.end_]
def Iz(c d:bD):Bool:=Cn c.tk c.tl c.tr d.tk d.tl d.tr
def vT(w:World)(B r:Nat)(M:Nat->List Nat):Prop:=
 r<B/\∃f,iQ w r f/\∀v:Nat,∃A c,(f v).getD (.slice none 0 0)= .slice A (M v).length c/\aS 1 pQ w B A (M v)
theorem vT.below{w w':World}{B C r:Nat}{M:Nat->List Nat}(h:vT w B r M)(D:Below C w w')(G:B<=C):vT w' B r M:=by
 obtain⟨I,f,H,J⟩:=h;refine⟨I,f,H.below D (by omega),fun v=>?_⟩;obtain⟨A,c,E,F⟩:=J v;exact⟨A,c,E,F.below D G⟩
structure pJ (w:World) (B:Nat) (AL AE:Option Addr) (r:Nat) (l:List bD) (E:List (List dS)) (M:Nat->List Nat):Prop where
 cons:aS 8 aT w B AL l
 Iy:uu w B AE E
 marks:vT w B r M
theorem pJ.below{w w':World}{B G:Nat}{F D:Option Addr}{r:Nat}{l:List bD}{E:List (List dS)}{M:Nat->List Nat}(h:pJ w B F D r l E M)(C:Below G w w')(A:B<=G):pJ w' B F D r l E M:=
 ⟨h.cons.below C A,h.Iy.below C A,h.marks.below C A⟩
theorem vT.mono{w:World}{B C r:Nat}{M:Nat->List Nat}(h:vT w B r M)(F:B<=C):vT w C r M:=by
 obtain⟨I,f,G,H⟩:=h;refine⟨by omega,f,G,fun v=>?_⟩;obtain⟨A,c,D,E⟩:=H v;exact⟨A,c,D,E.mono F⟩
theorem pJ.mono{w:World}{B F:Nat}{D C:Option Addr}{r:Nat}{l:List bD}{E:List (List dS)}{M:Nat->List Nat}(h:pJ w B D C r l E M)(A:B<=F):pJ w F D C r l E M:=
 ⟨h.cons.mono A,h.Iy.mono A,h.marks.mono A⟩
theorem pJ.later{w w':World}{B A:Option Addr}{r:Nat}{l:List bD}{E:List (List dS)}{M:Nat->List Nat}(h:pJ w w.heap.size B A r l E M)(C:Below w.heap.size w w'):pJ w' w'.heap.size B A r l E M:=
 (h.below C (ab9 _)).mono C.size
theorem NI(l:List Nat):bL (l.map fun x:Nat=>(x:Int))=l.flatMap pQ:=by
 induction l with
 | nil=>rfl
 | cons x l ih=>rw[List.flatMap_cons,<- ih];rfl
def iA(l:List bD)(M:Nat->List Nat)(i v:Nat):Option Nat:=
 (M v).find? fun j=>decide (i<j)&&(match l[i]?,l[j]? with|some c,some d=>Iz c d|_,_=>false)
theorem abu{p:Nat->Bool}:∀(l:List Nat) (k j:Nat),l[k]? =some j->(∀x∈l.take k,p x=false)->p j=true->l.find? p=some j:=by
 intro l
 induction l with
 | nil=>intro k j h;simp at h
 | cons x l ih=>
  intro k j h A B
  cases k with
  | zero=>simp at h;subst h;simp[B]
  | succ k=>
   have C:=A x (by simp);rw[List.find?_cons,C];exact ih k j (by simpa using h) (fun y D=>A y (by simp[D])) B
theorem Eo{A:Type}(l:List A)(k:Nat)(x:A)(h:l[k]? =some x):l.take (k+1)=l.take k++[x]:=by
 rw[List.take_add_one,h];rfl
theorem Ns(Q m:Option Addr)(F cL n cE r:Nat)(l:List bD)(E:List (List dS))(M:Nat->List Nat)(i v:Nat)(w:World)
 (hG:pJ w w.heap.size Q m r l E M) (hl:l.length=F) (hi:i<F) (hM:∀j∈M v,j<F) (al:(M v).length<=1000000):
 Calls Tryz.prog 171 #[.agg #[.slice Q F cL,.slice m n cE,.map (some r)],.int .i64 (i:Int),.int .i64 (v:Int)] w fun e w'=>
  e= .returned (.tuple #[.int .i64 (((iA l M i v).getD 0:Nat):Int),.bool (iA l M i v).isSome])/\Below w.heap.size w w':=by
 obtain⟨hr,f,hf,hv⟩:=hG.marks;obtain⟨A,c,O,J⟩:=hv v;have X:=xR (P:=Tryz.prog) (t:=72) (kt:=3) (et:=28) Tryz.underlying72 Tryz.underlying3 Gc (hf.alloc (.cells #[.slice Q F cL,.slice m n cE,.map (some r)] 153)) v;rw[O]at X;have HG:=kH hG;have HL:=kH hl;have HM:=kH hM;have HR:=kH J;clear hG hl hM J hf hv O;go_in
 go_wp2_with fail
 generalize G:w.alloc (.cells #[.slice Q F cL,.slice m n cE,.map (some r)] 153)=W0
 have S:W0.heap.size=w.heap.size+1:=by rw[<- G];simp
 have zh:Below w.heap.size w W0:=by rw[<- G];exact ai w _
 have R:W0.cell? ⟨w.heap.size,0,none⟩=some (.slice Q F cL):=by rw[<- G];simp
 have vU:=kH S;have a6:=kH R;clear S R G X;go_loopg [15] (M v).length (fun gk s wr=> ∃k:Nat,k+gk=(M v).length/\s= .int .i64 k/\Below (w.heap.size+1) W0 wr/\∀j∈(M v).take k,(decide (i<j)&&(match l[i]?,l[j]? with|some c,some d=>Iz c d|_,_=>false))=false)
 case atStart=>exact⟨0,by omega,rfl,by have:=vU.out;rw[<- this];exact Below.refl _ _,by simp⟩
 obtain⟨k,hk,rfl,hB,z⟩:=hrel;have aE:k<=(M v).length:=by omega
 have g:=kH hk;have b:=kH z;clear hk z;by_cases Y:k<(M v).length
 ·have K:Below w.heap.size w wr:=zh.trans (hB.mono (by omega))
  have N:(M v)[k]? =some (M v)[k]:=ace Y;obtain⟨mb,a7,O,b1,Z⟩:=(HR.out.below K (ab9 _)) k _ N;subst O;have ao:wr.cell? ⟨mb,a7+k,none⟩=some (.int .i64 ((M v)[k]:Int)):=by simpa using Z 0 _ rfl
  have af:(M v)[k]<F:=HM.out _ (List.getElem_mem Y);have BK:=kH N;clear Z N;generalize (M v)[k]=j at*
  have U:i<l.length:=by rw[HL.out];exact hi
  have V:j<l.length:=by rw[HL.out];exact af
  obtain⟨lb,D,O,b0,H⟩:=(HG.out.cons.below K (ab9 _)) i _ (ace U);obtain⟨b2,a1,a8,_,I⟩:=(HG.out.cons.below K (ab9 _)) j _ (ace V);subst O;cases a8
  have ar:wr.cell? ⟨lb,D+i*8+3,none⟩=some (.int .i64 l[i].tk):=H 3 _ rfl;have au:wr.cell? ⟨lb,D+i*8+3+1,none⟩=some (.int .i64 l[i].tl):=H 4 _ rfl;have av:wr.cell? ⟨lb,D+i*8+3+2,none⟩=some (.string l[i].tr):=H 5 _ rfl;have ax:wr.cell? ⟨lb,D+j*8+3,none⟩=some (.int .i64 l[j].tk):=I 3 _ rfl;have ay:wr.cell? ⟨lb,D+j*8+3+1,none⟩=some (.int .i64 l[j].tl):=I 4 _ rfl;have az:wr.cell? ⟨lb,D+j*8+3+2,none⟩=some (.string l[j].tr):=I 5 _ rfl;have an:wr.cell? ⟨w.heap.size,0,none⟩=some (.slice (some ⟨lb,D,none⟩) F cL):=(hB.cell (p:=⟨w.heap.size,0,none⟩) (by simp)).trans a6.out;have y:w.heap.size<wr.heap.size:=by have:=hB.size;have:=vU.out;omega
  have u:lb<wr.heap.size:=by omega
  have ab:(i:Int)<(F:Int):=by omega
  have ad:(j:Int)<(F:Int):=by omega
  have aq:(0:Int)<=(i:Int):=by omega
  have aw:(0:Int)<=(j:Int):=by omega
  clear H I
  have T:(decide (i<j)&&(match l[i]?,l[j]? with|some c,some d=>Iz c d|_,_=>false))=(decide (i<j)&&Iz l[i] l[j]):=by
   rw[ace U,ace V]
  have Ie:=kH T;clear T;generalize l[i]=ci at*
  generalize l[j]=cj at*
  by_cases L:i<j
  ·go_wp2_with fail
   go_region_held3 (fun w'=>w'.cell? ⟨w.heap.size,0,none⟩=some (.slice (some ⟨lb,D,none⟩) F cL)/\w'.cell? ⟨lb,D+i*8+3,none⟩=some (.int .i64 ci.tk)/\w'.cell? ⟨lb,D+i*8+3+1,none⟩=some (.int .i64 ci.tl)/\w'.cell? ⟨lb,D+i*8+3+2,none⟩=some (.string ci.tr)/\w'.cell? ⟨lb,D+j*8+3,none⟩=some (.int .i64 cj.tk)/\w'.cell? ⟨lb,D+j*8+3+1,none⟩=some (.int .i64 cj.tl)/\w'.cell? ⟨lb,D+j*8+3+2,none⟩=some (.string cj.tr)) (first|go_keep|(refine⟨?_,?_,?_,?_,?_,?_,?_⟩ <;>(rw[aa.cell (by first|exact y|exact u)];assumption))) ((go_at_call 223;refine(Tu _ _ _ _ _ _ _).mono ?_;rintro e w1 ⟨rfl,aa⟩))
   cases hx:Cn ci.tk ci.tl ci.tr cj.tk cj.tl cj.tr
   ·go_wp2_with fail
    go_roundg (gk - 1)
    case measure=>have:=g.out;omega
    refine⟨k+1,by have:=g.out;omega,by go_num,by(repeat first|exact .refl _ _|assumption|refine .trans ?_ (.mono (by assumption) ?_)|refine .alloc ?_ ?_ _|refine .setCell ?_ ?_ _|refine .drew ?_|refine aL ?_ _|omega|(simp<;>omega)),?_⟩;intro q C;rw[Eo _ _ _ BK.out]at C;rcases List.mem_append.1 C with C|C
    ·exact b.out q C
    rw[List.mem_singleton]at C;subst C;rw[Ie.out];simp[Iz,hx]
   have B:iA l M i v=some j:=abu _ _ _ BK.out b.out (by rw[Ie.out];simp[Iz,hx,L]);have bG:=kH B;clear B;go_wp2_with fail
   go_ret2
   rw[bG.out];exact⟨rfl,by(repeat first|exact .refl _ _|assumption|refine .trans ?_ (.mono (by assumption) ?_)|refine .alloc ?_ ?_ _|refine .setCell ?_ ?_ _|refine .drew ?_|refine aL ?_ _|omega|(simp<;>omega))⟩
  have hd:decide (i<j)=false:=by simpa using L
  go_wp2_with fail
  go_quiet (fail)
  go_wp2_with fail
  go_roundg (gk - 1)
  case measure=>have:=g.out;omega
  refine⟨k+1,by have:=g.out;omega,by go_num,by(repeat first|exact .refl _ _|assumption|refine .trans ?_ (.mono (by assumption) ?_)|refine .alloc ?_ ?_ _|refine .setCell ?_ ?_ _|refine .drew ?_|refine aL ?_ _|omega|(simp<;>omega)),?_⟩;intro q C;rw[Eo _ _ _ BK.out]at C;rcases List.mem_append.1 C with C|C
  ·exact b.out q C
  rw[List.mem_singleton]at C;subst C;rw[Ie.out];simp[L]
 have W:k=(M v).length:=by omega
 have B:iA l M i v=none:=by
  have:=b.out;rw[W,List.take_length]at this;exact List.find?_eq_none.2 (fun x hx=>by rw[this x hx];simp)
 have bG:=kH B;clear B W;go_wp2_with fail
 go_ret2
 rw[bG.out];exact⟨rfl,by(repeat first|exact .refl _ _|assumption|refine .trans ?_ (.mono (by assumption) ?_)|refine .alloc ?_ ?_ _|refine .setCell ?_ ?_ _|refine .drew ?_|refine aL ?_ _|omega|(simp<;>omega))⟩
theorem Cr:(Tryz.prog.info? 110).map (fun i=>(i.zero,i.size,i.bytes))=some (some (.agg #[.int .i64 0,.int .i64 0,.int .i64 0,.int .i64 0,.int .i64 0,.string ⟨#[]⟩,.int .i64 0,.int .i64 0]),8,72):=by kernel_rfl
def CX(base cb:Nat)(w w':World):Prop:=ak (fun g=>g=cb\/(base<=g/\∃cs fr,w.heap[g]? =some (.cells cs 110 fr))) w w'
section
variable {base cb:Nat}{w w1 w':World}
theorem CX.refl(base cb:Nat)(w:World):CX base cb w w:=ak.refl _ _
theorem CX.of_below(A:Below w.heap.size w w'):CX base cb w w':=(ak.refl _ w).below A
theorem CX.trans(h:CX base cb w w1)(k:CX base cb w1 w'):CX base cb w w':=by
 refine⟨k.os.trans h.os,k.tape.trans h.tape,k.output.trans h.output,aca h.size k.size,fun g C D=>?_⟩;have B:=h.block g C D
 have G:=k.block g (Nat.lt_of_lt_of_le C h.size) (fun A=>D (by
  rcases A with A| ⟨H,E,F,I⟩
  ·exact .inl A
  exact .inr ⟨H,E,F,by rw[<- B];exact I⟩))
 rw[G,B]
theorem CX.low(h:CX base cb w w'){B:Nat}(D:B<=w.heap.size)(E:B<=cb)(C:B<=base):Below B w w':=ak.toBelow h D fun g A=>by
 rcases A with A|A
 ·omega
 exact aca C A.1
theorem CX.blk(h:CX base cb w w'){g:Nat}{t:TypeId}{B:Array Value}(C:ah w g t B)(G:t≠110)(F:g≠cb):ah w' g t B:=by
 refine ah.since C h fun A=>?_
 rcases A with A| ⟨-,D,H,A⟩
 ·exact F A
 have E:w.heap[g]? =some (Obj.cells _ _ (0,0)):=C;rw[E]at A;simp only[acf,Obj.cells.injEq]at A;exact G A.2.1
theorem CX.own(h:CX base cb w w'){E:Nat}{e:TypeId}{size:Nat}{v:Value}{n:Nat}{F:List Value}(D:aG w E e size v n F)(I:e≠110)(B:v.ownBlock≠some cb):aG w' E e size v n F:=by
 refine D.since h fun g C A=>?_
 rcases A with A| ⟨-,G,K,A⟩
 ·exact B (by rw[C,A])
 obtain⟨J,H⟩:=D.typed C;rw[H]at A;simp only[acf,Obj.cells.injEq]at A;exact I A.2.1
end
structure CE where
 cb:Nat
 base:Nat
 rk:Int
 rx:ByteArray
 ra:Int
 rz:Int
 rA:Option Addr
 rn:Nat
 rc:Nat
 sA:Option Addr
 sn:Nat
 sc:Nat
 dA:Option Addr
 dn:Nat
 dc:Nat
 uA:Option Addr
 un:Nat
 uc:Nat
def PC(E:CE)(out:List bD)(nx rs:Int)(w:World):Prop:=∃oA oc,ah w E.cb 117 #[.int .i64 E.rk,.string E.rx,.int .i64 E.ra,.int .i64 E.rz,.slice E.rA E.rn E.rc,.slice E.sA E.sn E.sc,.slice E.dA E.dn E.dc,.slice E.uA E.un E.uc,.slice oA out.length oc,.int .i64 nx,.int .i64 rs]/\aG w E.base 110 8 (.slice oA out.length oc) out.length (out.flatMap aT)
def kD(E:CE)(out:List bD)(w:World):Prop:=∃oA oc,ah w E.cb 120 #[.slice E.rA E.rn E.rc,.slice E.dA E.dn E.dc,.slice E.uA E.un E.uc,.slice E.sA E.sn E.sc,.slice oA out.length oc]/\aG w E.base 110 8 (.slice oA out.length oc) out.length (out.flatMap aT)
theorem PC.below{E:CE}{out:List bD}{D F:Int}{w w':World}(h:PC E out D F w)(C:Below w.heap.size w w'):PC E out D F w':=by
 obtain⟨H,I,A,B⟩:=h;exact⟨H,I,A.below C A.lt,B.below C fun g G=>(B.lt g G).2⟩
theorem kD.below{E:CE}{out:List bD}{w w':World}(h:kD E out w)(C:Below w.heap.size w w'):kD E out w':=by
 obtain⟨F,G,A,B⟩:=h;exact⟨F,G,A.below C A.lt,B.below C fun g D=>(B.lt g D).2⟩
theorem Ey(w:World)(g:Nat)(c:bD)(h:∀j v,(aT c)[j]? =some v->w.cell? ⟨g,j,none⟩=some v):∀j v,(aT c)[j]? =some v->w.cell? ((⟨g,0,none⟩:Addr).add j)=some v:=fun j v A=>by
 rw[Addr.add_lit,Nat.zero_add];exact h j v A
theorem Cs{w:World}{g:Nat}{B:TypeId}{c:bD}(h:ah w g B (aT c).toArray):∀j v,(aT c)[j]? =some v->w.cell? ⟨g,j,none⟩=some v:=fun j v A=>by
 rw[h.cell];simpa using A
theorem oh(E:CE)(out:List bD)(nx rs:Int)(w:World)(h:PC E out nx rs w)(hN:out.length<=1000000)(P:E.base<=w.heap.size)(v F G:Int)(H:ByteArray)(k:Int)(x:ByteArray)(a z:Int)(A:Option Addr)(n c:Nat):
 Calls Tryz.prog 107 #[.pointer (some ⟨E.cb,0,none⟩),.int .i64 v,.agg #[.int .i64 F,.int .i64 G,.string H],.agg #[.int .i64 k,.string x,.int .i64 a,.int .i64 z,.slice A n c]] w fun e w'=>e= .returned (.tuple #[])/\PC E (out++[⟨0,v,0,F,G,H,a,z⟩]) nx rs w'/\CX E.base E.cb w w':=by
 obtain⟨i0,aa,ad,af,al⟩:=info_parts Cr;obtain⟨R,T,u,d⟩:=h;obtain⟨on, Q⟩:=ag out.length;rw[Q]at u d hN;obtain⟨C, J⟩:=ag ((w.alloc (.cells #[.int .i64 F,.int .i64 G,.string H] 108)).alloc (.cells #[.int .i64 k,.string x,.int .i64 a,.int .i64 z,.slice A n c] 24));have K:Below w.heap.size w C:=by rw[<- J];exact((Below.refl _ w).alloc (ab9 _) _).alloc (by simp) _
 have I:ah C w.heap.size 108 #[.int .i64 F,.int .i64 G,.string H]:=by rw[<- J];exact(ah.new w _ _).alloc _
 have M:ah C (w.heap.size+1) 24 #[.int .i64 k,.string x,.int .i64 a,.int .i64 z,.slice A n c]:=by
  rw[<- J];have:=ah.new (w.alloc (.cells #[.int .i64 F,.int .i64 G,.string H] 108)) 24 #[.int .i64 k,.string x,.int .i64 a,.int .i64 z,.slice A n c];simpa using this
 have l:=u.below K u.lt;have jv:=d.below K (fun g U=>(d.lt g U).2);have q:(Value.slice R on T).ownBlock≠some E.cb:=jv.bB l (by decide);have c8:=l.cell 8;have lc:=l.lt;have Ia:=kH M;have Z:=kH I;have HC:=kH u;have vV:=kH l;have qx:=kH jv;have X:=kH K;have fw:=kH q;have Jp:=kH Q;have an:E.base<=C.heap.size:=aca P K.size;have m:C.cell? ⟨E.cb,8,none⟩=some (.slice R on T)/\C.cell? ⟨w.heap.size,0,none⟩=some (.int .i64 F)/\C.cell? ⟨w.heap.size,1,none⟩=some (.int .i64 G)/\C.cell? ⟨w.heap.size,2,none⟩=some (.string H)/\C.cell? ⟨w.heap.size+1,2,none⟩=some (.int .i64 a)/\C.cell? ⟨w.heap.size+1,3,none⟩=some (.int .i64 z):=⟨c8,(I.cell 0),(I.cell 1),(I.cell 2),(M.cell 2),(M.cell 3)⟩
 have a1:=kH m;clear l jv K q Q u d m M I;go_in
 go_wp2_with (rw[J])
 clear J;refine dF (fun w'=>w'.cell? ⟨E.cb,8,none⟩=some (.slice R on T)/\w'.cell? ⟨w.heap.size,0,none⟩=some (.int .i64 F)/\w'.cell? ⟨w.heap.size,1,none⟩=some (.int .i64 G)/\w'.cell? ⟨w.heap.size,2,none⟩=some (.string H)/\w'.cell? ⟨w.heap.size+1,2,none⟩=some (.int .i64 a)/\w'.cell? ⟨w.heap.size+1,3,none⟩=some (.int .i64 z)) [16] [true,true,true,true,true,true,true,true,true,true,true,true,false,false,false,false,false] (by kernel_rfl) (by kernel_rfl) rfl (by kernel_rfl) ?_;have t:C.drew.cell? ⟨E.cb,8,none⟩=some (.slice R on T)/\C.cell? ⟨w.heap.size,0,none⟩=some (.int .i64 F)/\C.cell? ⟨w.heap.size,1,none⟩=some (.int .i64 G)/\C.cell? ⟨w.heap.size,2,none⟩=some (.string H)/\C.cell? ⟨w.heap.size+1,2,none⟩=some (.int .i64 a)/\C.cell? ⟨w.heap.size+1,3,none⟩=some (.int .i64 z):=a1.out;iterate 12(refine eD rfl t (by intro w' a6;obtain⟨ao,aq,ar,au,av,aw⟩:=a6;go_simp;rfl) ?_;simp only[Act.put,sA,sZ,sC])
 obtain⟨Y, r⟩:=ag (C.drew.alloc (.cells (aT ⟨0,v,0,F,G,H,a,z⟩).toArray 110));have O:Below C.heap.size C Y:=by rw[<- r];exact((Below.refl _ _).drew).alloc (ab9 _) _
 have mX:ah Y C.heap.size 110 (aT ⟨0,v,0,F,G,H,a,z⟩).toArray:=by rw[<- r];exact ah.new _ _ _
 have b:=vV.out.below O vV.out.lt;have V:=qx.out.below O (fun g U=>(qx.out.lt g U).2);have j:=Ia.out.below O Ia.out.lt;have W:=Z.out.below O Z.out.lt;have sG:Y.cell? ⟨E.cb,8,none⟩=some (.slice R on T)/\Y.cell? ⟨w.heap.size,0,none⟩=some (.int .i64 F)/\Y.cell? ⟨w.heap.size,1,none⟩=some (.int .i64 G)/\Y.cell? ⟨w.heap.size,2,none⟩=some (.string H)/\Y.cell? ⟨w.heap.size+1,2,none⟩=some (.int .i64 a)/\Y.cell? ⟨w.heap.size+1,3,none⟩=some (.int .i64 z):=⟨b.cell 8,(W.cell 0),(W.cell 1),(W.cell 2),(j.cell 2),(j.cell 3)⟩
 refine eu (w':=Y) (v:=.slice (some ⟨C.heap.size,0,none⟩) 1 1) rfl (by go_simp;first|exact r|exact⟨rfl,r⟩|rfl) (fun _=>sG) ?_;simp only[Act.put,sA,sZ,sC];refine jR rfl (fG _ (.tmp 12) (.tmp 20) _ rfl E.base 110 i0 _ 8 72 Tryz.underlying60 aa ad af al rfl (.slice R on T) on (out.flatMap aT) rfl V ⟨C.heap.size,0,none⟩ 1 1 (aT ⟨0,v,0,F,G,H,a,z⟩) rfl rfl (Ey _ _ _ (Cs mX)) (by simp[aT,Value.oneCell']) (by simp only[maxLen];omega) (by omega) (by have:=O.size;omega) ?_);intro v3 L D B rF;obtain⟨A3,c3,ab,-,-⟩:=D.shape;subst ab;have S:=b.grown B (fun y=>fw.out y.symm);have kX:=j.grown B (fun y=>(V.bB j (by decide)) y.symm);have f:=W.grown B (fun y=>(V.bB W (by decide)) y.symm);have dQ:L.cell? ⟨E.cb,8,none⟩=some (.slice R on T)/\L.cell? ⟨w.heap.size,0,none⟩=some (.int .i64 F)/\L.cell? ⟨w.heap.size,1,none⟩=some (.int .i64 G)/\L.cell? ⟨w.heap.size,2,none⟩=some (.string H)/\L.cell? ⟨w.heap.size+1,2,none⟩=some (.int .i64 a)/\L.cell? ⟨w.heap.size+1,3,none⟩=some (.int .i64 z):=⟨S.cell 8,(f.cell 0),(f.cell 1),(f.cell 2),(kX.cell 2),(kX.cell 3)⟩
 have q5:=S.frozen 8;have l3:=S.lt;refine⟨fun _=>dQ,?_⟩;iterate 2(simp only[Act.put,sA,sZ,sC];refine eu (w':=L) rfl (by go_simp;rfl) (fun _=>dQ) ?_)
 simp only[Act.put,sA,sZ,sC];have Rv:=S.cell 8;refine gH (w':=L.setCell ⟨E.cb,8,none⟩ (.slice A3 (on+1) c3)) rfl (by go_simp) (by simp) ?_;refine gp ?_;simp only[Act.put]
 have bT:Hid (PC E (out++[⟨0,v,0,F,G,H,a,z⟩]) nx rs (L.setCell ⟨E.cb,8,none⟩ (.slice A3 (on+1) c3))/\CX E.base E.cb w (L.setCell ⟨E.cb,8,none⟩ (.slice A3 (on+1) c3))):=kH (by
  have N:(out++[(⟨0,v,0,F,G,H,a,z⟩:bD)]).length=on+1:=by rw[acm,Jp.out];rfl
  have a8:(out++[(⟨0,v,0,F,G,H,a,z⟩:bD)]).flatMap aT=out.flatMap aT++aT ⟨0,v,0,F,G,H,a,z⟩:=by rw[List.flatMap_append];simp
  have vM:(Value.slice A3 (on+1) c3).ownBlock≠some E.cb:=D.bB S (by decide);refine⟨⟨A3,c3,?_,?_⟩,?_⟩
  ·rw[N]
   simpa using S.dB 8 (.slice A3 (on+1) c3)
  ·rw[N,a8]
   exact D.setCell (p:=⟨E.cb,8,none⟩) vM _
  refine CX.trans (CX.of_below (X.out.trans (O.mono X.out.size))) ?_;refine ak.setCell (p:=⟨E.cb,8,none⟩) (ak.grown (ak.refl _ Y) B fun g U=>.inl (.inr ?_)) (.inl (.inl rfl)) _;obtain⟨cs,a7⟩:=V.typed U
  exact⟨(V.lt g U).1,cs,_,a7⟩)
 clear t sG dQ D B rF S b V mX O r q5 l3 Rv j kX W f;go_wp2_with fail
 go_end0
 exact⟨rfl,bT.out⟩
theorem Cq(E:CE)(out:List bD)(nx rs:Int)(w:World)(h:PC E out nx rs w)(hN:out.length<=1000000)(J:E.base<=w.heap.size)(v u:Int)(k:Int)(x:ByteArray)(a z:Int)(A:Option Addr)(n c:Nat):
 Calls Tryz.prog 106 #[.pointer (some ⟨E.cb,0,none⟩),.int .i64 v,.int .i64 u,.agg #[.int .i64 k,.string x,.int .i64 a,.int .i64 z,.slice A n c]] w fun e w'=>e= .returned (.tuple #[])/\PC E (out++[⟨1,v,u,0,0,⟨#[]⟩,a,z⟩]) nx rs w'/\CX E.base E.cb w w':=by
 obtain⟨i0,b,a6,a7,a8⟩:=info_parts Cr;obtain⟨L,N,S,t⟩:=h;obtain⟨on, K⟩:=ag out.length;rw[K]at S t hN;obtain⟨D, H⟩:=ag (w.alloc (.cells #[.int .i64 k,.string x,.int .i64 a,.int .i64 z,.slice A n c] 24));have F:Below w.heap.size w D:=by rw[<- H];exact ai _ _
 have G:ah D w.heap.size 24 #[.int .i64 k,.string x,.int .i64 a,.int .i64 z,.slice A n c]:=by rw[<- H];exact ah.new w _ _
 have X:=S.below F S.lt;have jv:=t.below F (fun g Q=>(t.lt g Q).2);have V:(Value.slice L on N).ownBlock≠some E.cb:=jv.bB X (by decide);have c8:=X.cell 8;have lc:=X.lt;have Ia:=kH G;have HC:=kH S;have vV:=kH X;have qx:=kH jv;have R:=kH F;have fw:=kH V;have Jp:=kH K;have aa:E.base<=D.heap.size:=aca J F.size;have W:D.cell? ⟨E.cb,8,none⟩=some (.slice L on N)/\D.cell? ⟨w.heap.size,2,none⟩=some (.int .i64 a)/\D.cell? ⟨w.heap.size,3,none⟩=some (.int .i64 z):=⟨c8,(G.cell 2),(G.cell 3)⟩
 have q:=kH W;clear X jv F V K S t W G;go_in
 go_wp2_with (rw[H])
 clear H;refine dF (fun w'=>w'.cell? ⟨E.cb,8,none⟩=some (.slice L on N)/\w'.cell? ⟨w.heap.size,2,none⟩=some (.int .i64 a)/\w'.cell? ⟨w.heap.size,3,none⟩=some (.int .i64 z)) [16] [true,true,true,true,true,true,true,true,true,true,true,true,false,false,false,false,false] (by kernel_rfl) (by kernel_rfl) rfl (by kernel_rfl) ?_;have T:D.drew.cell? ⟨E.cb,8,none⟩=some (.slice L on N)/\D.cell? ⟨w.heap.size,2,none⟩=some (.int .i64 a)/\D.cell? ⟨w.heap.size,3,none⟩=some (.int .i64 z):=q.out;iterate 12(refine eD rfl T (by intro w' j;obtain⟨ab,ad,af⟩:=j;go_simp;rfl) ?_;simp only[Act.put,sA,sZ,sC])
 obtain⟨Y, U⟩:=ag (D.drew.alloc (.cells (aT ⟨1,v,u,0,0,⟨#[]⟩,a,z⟩).toArray 110));have P:Below D.heap.size D Y:=by rw[<- U];exact((Below.refl _ _).drew).alloc (ab9 _) _
 have mX:ah Y D.heap.size 110 (aT ⟨1,v,u,0,0,⟨#[]⟩,a,z⟩).toArray:=by rw[<- U];exact ah.new _ _ _
 have r:=vV.out.below P vV.out.lt;have Z:=qx.out.below P (fun g Q=>(qx.out.lt g Q).2);have y:=Ia.out.below P Ia.out.lt;have sG:Y.cell? ⟨E.cb,8,none⟩=some (.slice L on N)/\Y.cell? ⟨w.heap.size,2,none⟩=some (.int .i64 a)/\Y.cell? ⟨w.heap.size,3,none⟩=some (.int .i64 z):=⟨r.cell 8,(y.cell 2),(y.cell 3)⟩
 refine eu (w':=Y) (v:=.slice (some ⟨D.heap.size,0,none⟩) 1 1) rfl (by go_simp;first|exact U|exact⟨rfl,U⟩|rfl) (fun _=>sG) ?_;simp only[Act.put,sA,sZ,sC];refine jR rfl (fG _ (.tmp 12) (.tmp 20) _ rfl E.base 110 i0 _ 8 72 Tryz.underlying60 b a6 a7 a8 rfl (.slice L on N) on (out.flatMap aT) rfl Z ⟨D.heap.size,0,none⟩ 1 1 (aT ⟨1,v,u,0,0,⟨#[]⟩,a,z⟩) rfl rfl (Ey _ _ _ (Cs mX)) (by simp[aT,Value.oneCell']) (by simp only[maxLen];omega) (by omega) (by have:=P.size;omega) ?_);intro v3 O C B rF;obtain⟨A3,c3,a1,-,-⟩:=C.shape;subst a1;have M:=r.grown B (fun l=>fw.out l.symm);have kX:=y.grown B (fun l=>(Z.bB y (by decide)) l.symm);have m:O.cell? ⟨E.cb,8,none⟩=some (.slice L on N)/\O.cell? ⟨w.heap.size,2,none⟩=some (.int .i64 a)/\O.cell? ⟨w.heap.size,3,none⟩=some (.int .i64 z):=⟨M.cell 8,(kX.cell 2),(kX.cell 3)⟩
 have q5:=M.frozen 8;have l3:=M.lt;refine⟨fun _=>m,?_⟩;iterate 2(simp only[Act.put,sA,sZ,sC];refine eu (w':=O) rfl (by go_simp;rfl) (fun _=>m) ?_)
 simp only[Act.put,sA,sZ,sC];have Rv:=M.cell 8;refine gH (w':=O.setCell ⟨E.cb,8,none⟩ (.slice A3 (on+1) c3)) rfl (by go_simp) (by simp) ?_;refine gp ?_;simp only[Act.put]
 have bT:Hid (PC E (out++[⟨1,v,u,0,0,⟨#[]⟩,a,z⟩]) nx rs (O.setCell ⟨E.cb,8,none⟩ (.slice A3 (on+1) c3))/\CX E.base E.cb w (O.setCell ⟨E.cb,8,none⟩ (.slice A3 (on+1) c3))):=kH (by
  have I:(out++[(⟨1,v,u,0,0,⟨#[]⟩,a,z⟩:bD)]).length=on+1:=by rw[acm,Jp.out];rfl
  have d:(out++[(⟨1,v,u,0,0,⟨#[]⟩,a,z⟩:bD)]).flatMap aT=out.flatMap aT++aT ⟨1,v,u,0,0,⟨#[]⟩,a,z⟩:=by rw[List.flatMap_append];simp
  have vM:(Value.slice A3 (on+1) c3).ownBlock≠some E.cb:=C.bB M (by decide);refine⟨⟨A3,c3,?_,?_⟩,?_⟩
  ·rw[I]
   simpa using M.dB 8 (.slice A3 (on+1) c3)
  ·rw[I,d]
   exact C.setCell (p:=⟨E.cb,8,none⟩) vM _
  refine CX.trans (CX.of_below (R.out.trans (P.mono R.out.size))) ?_;refine ak.setCell (p:=⟨E.cb,8,none⟩) (ak.grown (ak.refl _ Y) B fun g Q=>.inl (.inr ?_)) (.inl (.inl rfl)) _;obtain⟨cs,f⟩:=Z.typed Q
  exact⟨(Z.lt g Q).1,cs,_,f⟩)
 clear T sG m C B rF M r Z mX P U q5 l3 Rv y kX;go_wp2_with fail
 go_end0
 exact⟨rfl,bT.out⟩
theorem yX(E:CE)(out:List bD)(w:World)(h:kD E out w)(hN:out.length<=1000000)(T:E.base<=w.heap.size)(v H I:Int)(J:ByteArray)(ts:List ae)(B:Nat)(hk:aD w B E.rA 0 ts)(hB:B<=w.heap.size)(K:ts.length=E.rn)(i:Nat)(t:ae)(hu:ts[i]? =some t):
 Calls Tryz.prog 116 #[.pointer (some ⟨E.cb,0,none⟩),.int .i64 v,.agg #[.int .i64 H,.int .i64 I,.string J],.int .i64 (i:Int)] w fun e w'=>e= .returned (.tuple #[])/\kD E (out++[⟨0,v,0,H,I,J,t.at_,t.end_⟩]) w'/\CX E.base E.cb w w':=by
 obtain⟨i0,af,ao,aq,ar⟩:=info_parts Cr;obtain⟨W,Z,S,hO⟩:=h;obtain⟨on, U⟩:=ag out.length;rw[U]at S hO hN;obtain⟨vals,⟨R,y,hA,ad,F⟩,hT⟩:=hk.get i t hu;obtain⟨A,c,an,-⟩:=hT.five;subst an;obtain⟨k, b⟩:=ag t.kind;obtain⟨x, FN⟩:=ag t.text;obtain⟨a, Q5⟩:=ag t.at_;obtain⟨z, V⟩:=ag t.end_;obtain⟨n, a6⟩:=ag t.kids.length;rw[b,FN,Q5,V,a6]at F;rw[Q5,V];have g0:w.cell? ⟨R,y+i*5,none⟩=some (.int .i64 k):=by simpa using F 0 _ rfl
 have g1:w.cell? ⟨R,y+i*5+1,none⟩=some (.string x):=by simpa using F 1 _ rfl
 have g2:w.cell? ⟨R,y+i*5+2,none⟩=some (.int .i64 a):=by simpa using F 2 _ rfl
 have g3:w.cell? ⟨R,y+i*5+3,none⟩=some (.int .i64 z):=by simpa using F 3 _ rfl
 have g4:w.cell? ⟨R,y+i*5+4,none⟩=some (.slice A n c):=by simpa using F 4 _ rfl
 have av:R<w.heap.size:=by omega
 have aw:(i:Int)<(E.rn:Int):=by have:=(acg.1 hu).1;omega
 have r0:w.cell? ⟨E.cb,0,none⟩=some (.slice (some ⟨R,y,none⟩) E.rn E.rc):=by rw[<- hA];exact S.cell 0
 have rl:=S.lt;obtain⟨D, M⟩:=ag ((w.alloc (.cells #[.int .i64 H,.int .i64 I,.string J] 108)).alloc (.cells #[.int .i64 k,.string x,.int .i64 a,.int .i64 z,.slice A n c] 24));have N:Below w.heap.size w D:=by rw[<- M];exact((Below.refl _ w).alloc (ab9 _) _).alloc (by simp) _
 have L:ah D w.heap.size 108 #[.int .i64 H,.int .i64 I,.string J]:=by rw[<- M];exact(ah.new w _ _).alloc _
 have P:ah D (w.heap.size+1) 24 #[.int .i64 k,.string x,.int .i64 a,.int .i64 z,.slice A n c]:=by
  rw[<- M];have:=ah.new (w.alloc (.cells #[.int .i64 H,.int .i64 I,.string J] 108)) 24 #[.int .i64 k,.string x,.int .i64 a,.int .i64 z,.slice A n c];simpa using this
 have jQ:=S.below N S.lt;have jv:=hO.below N (fun g u=>(hO.lt g u).2);have a1:(Value.slice W on Z).ownBlock≠some E.cb:=jv.bB jQ (by decide);have c8:=jQ.cell 4;have lc:=jQ.lt;have Ia:=kH P;have l:=kH L;have HC:=kH S;have vV:=kH jQ;have qx:=kH jv;have m:=kH N;have fw:=kH a1;have Jp:=kH U;have au:E.base<=D.heap.size:=aca T N.size;have a7:D.cell? ⟨E.cb,4,none⟩=some (.slice W on Z)/\D.cell? ⟨w.heap.size,0,none⟩=some (.int .i64 H)/\D.cell? ⟨w.heap.size,1,none⟩=some (.int .i64 I)/\D.cell? ⟨w.heap.size,2,none⟩=some (.string J)/\D.cell? ⟨w.heap.size+1,2,none⟩=some (.int .i64 a)/\D.cell? ⟨w.heap.size+1,3,none⟩=some (.int .i64 z):=⟨c8,(L.cell 0),(L.cell 1),(L.cell 2),(P.cell 2),(P.cell 3)⟩
 have a8:=kH a7;clear jQ jv N a1 U S hO a7 P L hk K hu hA F hT ad b FN Q5 V a6 hB;go_in
 go_wp2_with (rw[M])
 clear M;refine dF (fun w'=>w'.cell? ⟨E.cb,4,none⟩=some (.slice W on Z)/\w'.cell? ⟨w.heap.size,0,none⟩=some (.int .i64 H)/\w'.cell? ⟨w.heap.size,1,none⟩=some (.int .i64 I)/\w'.cell? ⟨w.heap.size,2,none⟩=some (.string J)/\w'.cell? ⟨w.heap.size+1,2,none⟩=some (.int .i64 a)/\w'.cell? ⟨w.heap.size+1,3,none⟩=some (.int .i64 z)) [16] [true,true,true,true,true,true,true,true,true,true,true,true,false,false,false,false,false] (by kernel_rfl) (by kernel_rfl) rfl (by kernel_rfl) ?_;have f:D.drew.cell? ⟨E.cb,4,none⟩=some (.slice W on Z)/\D.cell? ⟨w.heap.size,0,none⟩=some (.int .i64 H)/\D.cell? ⟨w.heap.size,1,none⟩=some (.int .i64 I)/\D.cell? ⟨w.heap.size,2,none⟩=some (.string J)/\D.cell? ⟨w.heap.size+1,2,none⟩=some (.int .i64 a)/\D.cell? ⟨w.heap.size+1,3,none⟩=some (.int .i64 z):=a8.out;iterate 12(refine eD rfl f (by intro w' aa;obtain⟨ax,ay,az,aE,b0,b1⟩:=aa;go_simp;rfl) ?_;simp only[Act.put,sA,sZ,sC])
 obtain⟨Y, d⟩:=ag (D.drew.alloc (.cells (aT ⟨0,v,0,H,I,J,a,z⟩).toArray 110));have Q:Below D.heap.size D Y:=by rw[<- d];exact((Below.refl _ _).drew).alloc (ab9 _) _
 have mX:ah Y D.heap.size 110 (aT ⟨0,v,0,H,I,J,a,z⟩).toArray:=by rw[<- d];exact ah.new _ _ _
 have Bw:=vV.out.below Q vV.out.lt;have r:=qx.out.below Q (fun g u=>(qx.out.lt g u).2);have o9:=Ia.out.below Q Ia.out.lt;have q:=l.out.below Q l.out.lt;have sG:Y.cell? ⟨E.cb,4,none⟩=some (.slice W on Z)/\Y.cell? ⟨w.heap.size,0,none⟩=some (.int .i64 H)/\Y.cell? ⟨w.heap.size,1,none⟩=some (.int .i64 I)/\Y.cell? ⟨w.heap.size,2,none⟩=some (.string J)/\Y.cell? ⟨w.heap.size+1,2,none⟩=some (.int .i64 a)/\Y.cell? ⟨w.heap.size+1,3,none⟩=some (.int .i64 z):=⟨Bw.cell 4,(q.cell 0),(q.cell 1),(q.cell 2),(o9.cell 2),(o9.cell 3)⟩
 refine eu (w':=Y) (v:=.slice (some ⟨D.heap.size,0,none⟩) 1 1) rfl (by go_simp;first|exact d|exact⟨rfl,d⟩|rfl) (fun _=>sG) ?_;simp only[Act.put,sA,sZ,sC];refine jR rfl (fG _ (.tmp 20) (.tmp 28) _ rfl E.base 110 i0 _ 8 72 Tryz.underlying60 af ao aq ar rfl (.slice W on Z) on (out.flatMap aT) rfl r ⟨D.heap.size,0,none⟩ 1 1 (aT ⟨0,v,0,H,I,J,a,z⟩) rfl rfl (Ey _ _ _ (Cs mX)) (by simp[aT,Value.oneCell']) (by simp only[maxLen];omega) (by omega) (by have:=Q.size;omega) ?_);intro v3 O G C rF;obtain⟨A3,c3,al,-,-⟩:=G.shape;subst al;have X:=Bw.grown C (fun j=>fw.out j.symm);have kX:=o9.grown C (fun j=>(r.bB o9 (by decide)) j.symm);have DW:=q.grown C (fun j=>(r.bB q (by decide)) j.symm);have dQ:O.cell? ⟨E.cb,4,none⟩=some (.slice W on Z)/\O.cell? ⟨w.heap.size,0,none⟩=some (.int .i64 H)/\O.cell? ⟨w.heap.size,1,none⟩=some (.int .i64 I)/\O.cell? ⟨w.heap.size,2,none⟩=some (.string J)/\O.cell? ⟨w.heap.size+1,2,none⟩=some (.int .i64 a)/\O.cell? ⟨w.heap.size+1,3,none⟩=some (.int .i64 z):=⟨X.cell 4,(DW.cell 0),(DW.cell 1),(DW.cell 2),(kX.cell 2),(kX.cell 3)⟩
 have q5:=X.frozen 4;have l3:=X.lt;refine⟨fun _=>dQ,?_⟩;iterate 2(simp only[Act.put,sA,sZ,sC];refine eu (w':=O) rfl (by go_simp;rfl) (fun _=>dQ) ?_)
 simp only[Act.put,sA,sZ,sC];have Rv:=X.cell 4;refine gH (w':=O.setCell ⟨E.cb,4,none⟩ (.slice A3 (on+1) c3)) rfl (by go_simp) (by simp) ?_;refine gp ?_;simp only[Act.put]
 have bT:Hid (kD E (out++[⟨0,v,0,H,I,J,a,z⟩]) (O.setCell ⟨E.cb,4,none⟩ (.slice A3 (on+1) c3))/\CX E.base E.cb w (O.setCell ⟨E.cb,4,none⟩ (.slice A3 (on+1) c3))):=kH (by
  have K:(out++[(⟨0,v,0,H,I,J,a,z⟩:bD)]).length=on+1:=by rw[acm,Jp.out];rfl
  have ab:(out++[(⟨0,v,0,H,I,J,a,z⟩:bD)]).flatMap aT=out.flatMap aT++aT ⟨0,v,0,H,I,J,a,z⟩:=by rw[List.flatMap_append];simp
  have vM:(Value.slice A3 (on+1) c3).ownBlock≠some E.cb:=G.bB X (by decide);refine⟨⟨A3,c3,?_,?_⟩,?_⟩
  ·rw[K]
   simpa using X.dB 4 (.slice A3 (on+1) c3)
  ·rw[K,ab]
   exact G.setCell (p:=⟨E.cb,4,none⟩) vM _
  refine CX.trans (CX.of_below (m.out.trans (Q.mono m.out.size))) ?_;refine ak.setCell (p:=⟨E.cb,4,none⟩) (ak.grown (ak.refl _ Y) C fun g u=>.inl (.inr ?_)) (.inl (.inl rfl)) _;obtain⟨cs,F⟩:=r.typed u
  exact⟨(r.lt g u).1,cs,_,F⟩)
 clear f sG dQ G C rF X Bw r mX Q d q5 l3 Rv o9 kX q DW;go_wp2_with fail
 go_end0
 exact⟨rfl,bT.out⟩
theorem Eu(E:CE)(out:List bD)(w:World)(h:kD E out w)(hN:out.length<=1000000)(N:E.base<=w.heap.size)(v u:Int)(ts:List ae)(B:Nat)(hk:aD w B E.rA 0 ts)(hB:B<=w.heap.size)(H:ts.length=E.rn)(i:Nat)(t:ae)(hu:ts[i]? =some t):
 Calls Tryz.prog 115 #[.pointer (some ⟨E.cb,0,none⟩),.int .i64 v,.int .i64 u,.int .i64 (i:Int)] w fun e w'=>e= .returned (.tuple #[])/\kD E (out++[⟨1,v,u,0,0,⟨#[]⟩,t.at_,t.end_⟩]) w'/\CX E.base E.cb w w':=by
 obtain⟨i0,aa,af,al,an⟩:=info_parts Cr;obtain⟨Q,S,M,b⟩:=h;obtain⟨on, O⟩:=ag out.length;rw[O]at M b hN;obtain⟨vals,⟨L,V,hA,a8,D⟩,hT⟩:=hk.get i t hu;obtain⟨A,c,ad,-⟩:=hT.five;subst ad;obtain⟨k, r⟩:=ag t.kind;obtain⟨x, FN⟩:=ag t.text;obtain⟨a, Q5⟩:=ag t.at_;obtain⟨z, P⟩:=ag t.end_;obtain⟨n, m⟩:=ag t.kids.length;rw[r,FN,Q5,P,m]at D;rw[Q5,P];have g0:w.cell? ⟨L,V+i*5,none⟩=some (.int .i64 k):=by simpa using D 0 _ rfl
 have g1:w.cell? ⟨L,V+i*5+1,none⟩=some (.string x):=by simpa using D 1 _ rfl
 have g2:w.cell? ⟨L,V+i*5+2,none⟩=some (.int .i64 a):=by simpa using D 2 _ rfl
 have g3:w.cell? ⟨L,V+i*5+3,none⟩=some (.int .i64 z):=by simpa using D 3 _ rfl
 have g4:w.cell? ⟨L,V+i*5+4,none⟩=some (.slice A n c):=by simpa using D 4 _ rfl
 have aq:L<w.heap.size:=by omega
 have ar:(i:Int)<(E.rn:Int):=by have:=(acg.1 hu).1;omega
 have r0:w.cell? ⟨E.cb,0,none⟩=some (.slice (some ⟨L,V,none⟩) E.rn E.rc):=by rw[<- hA];exact M.cell 0
 have rl:=M.lt;obtain⟨G, K⟩:=ag (w.alloc (.cells #[.int .i64 k,.string x,.int .i64 a,.int .i64 z,.slice A n c] 24));have I:Below w.heap.size w G:=by rw[<- K];exact ai _ _
 have J:ah G w.heap.size 24 #[.int .i64 k,.string x,.int .i64 a,.int .i64 z,.slice A n c]:=by rw[<- K];exact ah.new w _ _
 have j:=M.below I M.lt;have jv:=b.below I (fun g W=>(b.lt g W).2);have q:(Value.slice Q on S).ownBlock≠some E.cb:=jv.bB j (by decide);have c8:=j.cell 4;have lc:=j.lt;have Ia:=kH J;have HC:=kH M;have vV:=kH j;have qx:=kH jv;have X:=kH I;have fw:=kH q;have Jp:=kH O;have ao:E.base<=G.heap.size:=aca N I.size;have l:G.cell? ⟨E.cb,4,none⟩=some (.slice Q on S)/\G.cell? ⟨w.heap.size,2,none⟩=some (.int .i64 a)/\G.cell? ⟨w.heap.size,3,none⟩=some (.int .i64 z):=⟨c8,(J.cell 2),(J.cell 3)⟩
 have a1:=kH l;clear j jv I q O M b l J hk H hu hA D hT a8 r FN Q5 P m hB;go_in
 go_wp2_with (rw[K])
 clear K;refine dF (fun w'=>w'.cell? ⟨E.cb,4,none⟩=some (.slice Q on S)/\w'.cell? ⟨w.heap.size,2,none⟩=some (.int .i64 a)/\w'.cell? ⟨w.heap.size,3,none⟩=some (.int .i64 z)) [16] [true,true,true,true,true,true,true,true,true,true,true,true,false,false,false,false,false] (by kernel_rfl) (by kernel_rfl) rfl (by kernel_rfl) ?_;have Z:G.drew.cell? ⟨E.cb,4,none⟩=some (.slice Q on S)/\G.cell? ⟨w.heap.size,2,none⟩=some (.int .i64 a)/\G.cell? ⟨w.heap.size,3,none⟩=some (.int .i64 z):=a1.out;iterate 12(refine eD rfl Z (by intro w' a6;obtain⟨au,av,aw⟩:=a6;go_simp;rfl) ?_;simp only[Act.put,sA,sZ,sC])
 obtain⟨Y, y⟩:=ag (G.drew.alloc (.cells (aT ⟨1,v,u,0,0,⟨#[]⟩,a,z⟩).toArray 110));have U:Below G.heap.size G Y:=by rw[<- y];exact((Below.refl _ _).drew).alloc (ab9 _) _
 have mX:ah Y G.heap.size 110 (aT ⟨1,v,u,0,0,⟨#[]⟩,a,z⟩).toArray:=by rw[<- y];exact ah.new _ _ _
 have Bw:=vV.out.below U vV.out.lt;have f:=qx.out.below U (fun g W=>(qx.out.lt g W).2);have d:=Ia.out.below U Ia.out.lt;have sG:Y.cell? ⟨E.cb,4,none⟩=some (.slice Q on S)/\Y.cell? ⟨w.heap.size,2,none⟩=some (.int .i64 a)/\Y.cell? ⟨w.heap.size,3,none⟩=some (.int .i64 z):=⟨Bw.cell 4,(d.cell 2),(d.cell 3)⟩
 refine eu (w':=Y) (v:=.slice (some ⟨G.heap.size,0,none⟩) 1 1) rfl (by go_simp;first|exact y|exact⟨rfl,y⟩|rfl) (fun _=>sG) ?_;simp only[Act.put,sA,sZ,sC];refine jR rfl (fG _ (.tmp 20) (.tmp 28) _ rfl E.base 110 i0 _ 8 72 Tryz.underlying60 aa af al an rfl (.slice Q on S) on (out.flatMap aT) rfl f ⟨G.heap.size,0,none⟩ 1 1 (aT ⟨1,v,u,0,0,⟨#[]⟩,a,z⟩) rfl rfl (Ey _ _ _ (Cs mX)) (by simp[aT,Value.oneCell']) (by simp only[maxLen];omega) (by omega) (by have:=U.size;omega) ?_);intro v3 T F C rF;obtain⟨A3,c3,ab,-,-⟩:=F.shape;subst ab;have R:=Bw.grown C (fun e1=>fw.out e1.symm);have kX:=d.grown C (fun e1=>(f.bB d (by decide)) e1.symm);have dQ:T.cell? ⟨E.cb,4,none⟩=some (.slice Q on S)/\T.cell? ⟨w.heap.size,2,none⟩=some (.int .i64 a)/\T.cell? ⟨w.heap.size,3,none⟩=some (.int .i64 z):=⟨R.cell 4,(kX.cell 2),(kX.cell 3)⟩
 have q5:=R.frozen 4;have l3:=R.lt;refine⟨fun _=>dQ,?_⟩;iterate 2(simp only[Act.put,sA,sZ,sC];refine eu (w':=T) rfl (by go_simp;rfl) (fun _=>dQ) ?_)
 simp only[Act.put,sA,sZ,sC];have Rv:=R.cell 4;refine gH (w':=T.setCell ⟨E.cb,4,none⟩ (.slice A3 (on+1) c3)) rfl (by go_simp) (by simp) ?_;refine gp ?_;simp only[Act.put]
 have bT:Hid (kD E (out++[⟨1,v,u,0,0,⟨#[]⟩,a,z⟩]) (T.setCell ⟨E.cb,4,none⟩ (.slice A3 (on+1) c3))/\CX E.base E.cb w (T.setCell ⟨E.cb,4,none⟩ (.slice A3 (on+1) c3))):=kH (by
  have H:(out++[(⟨1,v,u,0,0,⟨#[]⟩,a,z⟩:bD)]).length=on+1:=by rw[acm,Jp.out];rfl
  have a7:(out++[(⟨1,v,u,0,0,⟨#[]⟩,a,z⟩:bD)]).flatMap aT=out.flatMap aT++aT ⟨1,v,u,0,0,⟨#[]⟩,a,z⟩:=by rw[List.flatMap_append];simp
  have vM:(Value.slice A3 (on+1) c3).ownBlock≠some E.cb:=F.bB R (by decide);refine⟨⟨A3,c3,?_,?_⟩,?_⟩
  ·rw[H]
   simpa using R.dB 4 (.slice A3 (on+1) c3)
  ·rw[H,a7]
   exact F.setCell (p:=⟨E.cb,4,none⟩) vM _
  refine CX.trans (CX.of_below (X.out.trans (U.mono X.out.size))) ?_;refine ak.setCell (p:=⟨E.cb,4,none⟩) (ak.grown (ak.refl _ Y) C fun g W=>.inl (.inr ?_)) (.inl (.inl rfl)) _;obtain⟨cs,D⟩:=f.typed W
  exact⟨(f.lt g W).1,cs,_,D⟩)
 clear Z sG dQ F C rF R Bw f mX U y q5 l3 Rv d kX;go_wp2_with fail
 go_end0
 exact⟨rfl,bT.out⟩
def nM:ae->List Nat->Option ae
 | t,[]=>some t
 | t,i::p=>(t.kids[i]?).bind fun k=>nM k p
theorem Ji:∀{p:List Nat}{t y z:ae}{i:Nat},nM t p=some y->y.kids[i]? =some z->nM t (p++[i])=some z
 | [],t,y,z,i,h,hz=>by
  simp only[nM,acf]at h;subst h;simp[nM,hz]
 | j::p,t,y,z,i,h,hz=>by
  rw[nM]at h;rw[List.cons_append,nM]
  cases A:t.kids[j]? with
  | none=>rw[A]at h;cases h
  | some k=>
   rw[A]at h;exact Ji (p:=p) h hz
def yL(p:List Nat):List Value:=p.map (fun(i:Nat)=>Value.int .i64 (i:Int))
theorem SV{ts:List ae}{i j:Nat}{y:ae}(h:(bg (ts.drop i))[j]? =some y):
 ∃z,ts[i]? =some z/\((aB z<=j/\(bg (ts.drop (i+1)))[j - aB z]? =some y)\/(j<aB z/\(aM z)[j]? =some y)):=by
 cases A:ts.drop i with
 | nil=>rw[A]at h;simp[bg]at h
 | cons z r=>
  have D:ts[i]? =some z:=by
   have:=congrArg (fun l=>l[0]?) A;simpa using this
  have C:ts.drop (i+1)=r:=by
   have:=congrArg (List.drop 1) A;rw[List.drop_drop]at this;rw[this];rfl
  rw[A,bg]at h;refine⟨z,D,?_⟩;by_cases B:j<aB z
  ·rw[List.getElem?_append_left (by rw[eZ];exact B)]at h
   exact .inr ⟨B,h⟩
  rw[ack (by rw[eZ];omega),eZ]at h;exact .inl ⟨by omega,by rw[C];exact h⟩
theorem ah.tZ{w:World}{g:Nat}{t:TypeId}{A B C D E:Value}(h:ah w g t #[A,B,C,D,E])(a b c d e:Value):ah (fZ w g a b c d e) g t #[a,b,c,d,e]:=by
 have:=((((h.dB 0 a).dB 1 b).dB 2 c).dB 3 d).dB 4 e;unfold fZ;simpa using this
theorem kI{w:World}{g:Nat}{a b c d e:Value}:ak (fun x=>x=g) w (fZ w g a b c d e):=by
 unfold fZ;exact(((((ak.refl (fun x=>x=g) w).setCell (.inl rfl) _).setCell (.inl rfl) _).setCell (.inl rfl) _).setCell (.inl rfl) _).setCell (.inl rfl) _
def gU(i:Nat):List Value:=[.int .i64 (i:Int)]
theorem XA(t:ae)(A:Option Addr)(c:Nat)(m:Nat)(y:ae)(w:World)(hN:aB t<=1000000)(hk:aD w w.heap.size A 0 t.kids)(hy:(aM t)[m]? =some y):
 Calls Tryz.prog 175 #[aO t A c,.int .i64 (m:Int)] w fun e w'=> ∃(p:List Nat) (I:Option Addr) (B pc:Nat),e= .returned (.tuple #[.slice I B pc,.bool true])/\p.length=B/\nM t p=some y/\B<=1000000/\aG w' w.heap.size 3 1 (.slice I B pc) B (yL p)/\Below w.heap.size w w':=by
 obtain⟨i0,c5,cq,cr,cv⟩:=info_parts mH;obtain⟨k0,x0,a0,z0,n0,bm,bs,bk,a7,bn,dH⟩:=aW t A c;rw[dH];obtain⟨W1, l⟩:=ag (w.alloc (.cells #[.int .i64 k0,.string x0,.int .i64 a0,.int .i64 z0,.slice A n0 c] 24));have aa:ah W1 w.heap.size 24 #[.int .i64 k0,.string x0,.int .i64 a0,.int .i64 z0,.slice A n0 c]:=by rw[<- l];exact ah.new w _ _
 have f:Below w.heap.size w W1:=by rw[<- l];exact ai w _
 have C:=vR t A c W1 (by omega) (aD.mono f.size _ _ _ (aD.below f (ab9 _) _ _ _ hk));rw[dH]at C;obtain⟨ct, a8⟩:=ag (aB t);rw[a8]at C hN
 have cC:(m:Int)<(ct:Int):=by
  have h1:=(acg.1 hy).1;rw[eZ,a8]at h1;omega
 have cd:¬((ct:Int)<=(m:Int)):=by omega
 have cj:¬((m:Int)<0):=by omega
 have b3:¬(ct<=m):=by omega
 have b1:decide (ct<=m)=false:=decide_eq_false b3;have tK:=kH aa;have b9:=kH f;have HC:=kH C;have bG:=kH a8;have HK:=kH hk;have HY:=kH hy;have qQ:Hid (t.kind=k0/\t.text=x0/\t.at_=a0/\t.end_=z0/\t.kids.length=n0):=kH ⟨bm,bs,bk,a7,bn⟩;obtain⟨⟨m0,m1,m2,m3,m4⟩,-⟩:=aa.five;have lm:=aa.lt;clear C aa f a8 hk bm bs bk a7 bn dH hy;go_in
 go_wp2_with (rw[l])
 refine HC.out.mono ?_;rintro e w2 ⟨rfl,ao⟩;have bB:Hid (Below w.heap.size w w2):=kH (b9.out.trans (ao.mono b9.out.size));have bo:=tK.out.below ao tK.out.lt;have OA:=kH bo;clear l m0 m1 m2 m3 m4 lm ao bo;go_wp2_with fail
 go_loopg [1,6] (m+1) (fun gk s1 s6 wr=> ∃(u:ae) (Au:Option Addr) (cu k:Nat) (p:List Nat) (I:Option Addr) (B pc:Nat),k<gk/\s1= .int .i64 (k:Int)/\s6= .slice I B pc/\p.length=B/\Below w.heap.size w wr/\ah wr w.heap.size 24 #[.int .i64 u.kind,.string u.text,.int .i64 u.at_,.int .i64 u.end_,.slice Au u.kids.length cu]/\aG wr (w.heap.size+1) 3 1 (.slice I B pc) B (yL p)/\nM t p=some u/\(aM u)[k]? =some y/\aD w w.heap.size Au 0 u.kids/\B+aB u<=ct)
 case atStart=>
  refine⟨t,A,c,m,[],none,0,0,by omega,rfl,rfl,rfl,bB.out,?_,aG.nil _ _ _ _,rfl,HY.out,HK.out,by have:=bG.out;omega⟩;obtain⟨h1,h2,h3,h4,h5⟩:=qQ.out;rw[h1,h2,h3,h4,h5];exact OA.out
 obtain⟨u,Au,cu,k,p,I,B,pc,aE,rfl,rfl,ab,hB,Uf,hO,hF,L,N7,iR⟩:=hrel;obtain⟨R,cm⟩:∃R:World,R=wr:=⟨_,rfl⟩
 subst cm;obtain⟨go,c4⟩:∃go:Nat,go=gk:=⟨_,rfl⟩
 subst c4;have ck:B<=1000000:=by omega
 cases k with
 | zero=>
  have cp:u=y:=by rw[iK]at L;simpa using L
  subst cp;have bT:Hid (∃(p':List Nat) (bd:Option Addr) (XR bx:Nat),Ending.returned (.tuple #[.slice I B pc,.bool true])= .returned (.tuple #[.slice bd XR bx,.bool true])/\p'.length=XR/\nM t p'=some u/\XR<=1000000/\aG R w.heap.size 3 1 (.slice bd XR bx) XR (yL p')/\Below w.heap.size w R):=kH ⟨p,I,B,pc,rfl,ab,hF,ck,hO.mono (Nat.le_succ _),hB⟩;clear hO hF hB Uf N7 iR ab L aE;go_wp2_with fail
  try simp only[Exit.inBlock,Exit.then]
  refine bodyPost_ret (v:=.tuple #[.slice I B pc,.bool true]) (by simp[results,Tryz.results175,go_sem]) rfl ?_;exact bT.out
 | succ k=>
  have c9:k+1<aB u:=by rw[<- eZ];exact(acg.1 L).1
  have bj:(bg (u.kids.drop 0))[k]? =some y:=by rw[iK]at L;simpa using L
  have bX:=kH bj;have cy:k<=1000000:=by omega
  have ar:aB u<=1000000:=by omega
  obtain⟨n, hn⟩:=ag u.kids.length;obtain⟨ku, QQ⟩:=ag u.kind;obtain⟨xu, bt⟩:=ag u.text;obtain⟨au, Q0⟩:=ag u.at_;obtain⟨zu, bw⟩:=ag u.end_;rw[hn,QQ,bt,Q0,bw]at Uf;have b6:n<=1000000:=by have h1:=dO u.kids;have h2:=mY u;omega
  have HB:=kH hB;have r:=kH Uf;have HO:=kH hO;have HF:=kH hF;have bM:=kH N7;have HN:=kH hn;have bP:=kH ab;have Sm:=kH iR;have bc:=kH aE;have b4:=Uf.cell 4;have lb:=Uf.lt;have e0:((k+1:Nat):Int)=(k:Int)+1:=by omega
  have cI:IntKind.i64.wrap ((k:Int)+1 - 1)=(k:Int):=by rw[IntWalk.i64_in _ (by omega)];omega
  have c8:(0:Int)<(k:Int)+1:=by omega
  rw[e0];clear hB Uf hO hF N7 hn ab iR aE L bj c9 e0 QQ bt Q0 bw;go_wp2_with fail
  go_loopg [1,6,25] n (fun gi s1 s6 cx wi=> ∃i j:Nat,s1= .int .i64 (j:Int)/\s6= .slice I B pc/\cx= .int .i64 (i:Int)/\i+gi=n/\j<=k/\(bg (u.kids.drop i))[j]? =some y/\Below R.heap.size R wi)
  case atStart=>exact⟨0,k,rfl,rfl,rfl,by omega,ab9 _,bX.out,Below.refl _ _⟩
  obtain⟨i,j,rfl,rfl,rfl,bl,c7,bu,YJ⟩:=hrel;obtain⟨z,hz,a6⟩:=SV bu;obtain⟨vals,⟨b,Q,hA,M,F⟩,hT⟩:=bM.out.get i z hz;rw[Nat.zero_add]at F;obtain⟨K,N,iY,FW⟩:=hT.five;subst hA;subst iY;have cg:i<n:=by rw[<- HN.out];exact(acg.1 hz).1
  have G:=HB.out.trans (YJ.mono HB.out.size);obtain⟨U,X,S,T,Z,ay,b8,xI,zZ,sV,QL⟩:=aW z K N;rw[ay,b8,xI,zZ,sV]at F;have t0:wr.cell? ⟨b,Q+i*5,none⟩=some (.int .i64 U):=(G.cell (p:=⟨b,_,none⟩) M).trans (F 0 _ rfl);have t1:wr.cell? ⟨b,Q+i*5+1,none⟩=some (.string X):=(G.cell (p:=⟨b,_,none⟩) M).trans (F 1 _ rfl);have t2:wr.cell? ⟨b,Q+i*5+2,none⟩=some (.int .i64 S):=(G.cell (p:=⟨b,_,none⟩) M).trans (F 2 _ rfl);have t3:wr.cell? ⟨b,Q+i*5+3,none⟩=some (.int .i64 T):=(G.cell (p:=⟨b,_,none⟩) M).trans (F 3 _ rfl);have t4:wr.cell? ⟨b,Q+i*5+4,none⟩=some (.slice K Z N):=(G.cell (p:=⟨b,_,none⟩) M).trans (F 4 _ rfl)
  have ax:aB z<=aB u:=by
   have h1:=dI u.kids i z hz;have h2:=fe u.kids (i+1);have h3:=mY u;omega
  have c1:b<wr.heap.size:=Nat.lt_of_lt_of_le M G.size;obtain⟨H, VZ⟩:=ag wr.heap.size;obtain⟨W8, tF⟩:=ag (wr.alloc (.cells #[.int .i64 U,.string X,.int .i64 S,.int .i64 T,.slice K Z N] 24));have lI:Below wr.heap.size wr W8:=by rw[<- tF];exact ai _ _
  have D5:ah W8 H 24 #[.int .i64 U,.string X,.int .i64 S,.int .i64 T,.slice K Z N]:=by rw[<- tF,<- VZ];exact ah.new _ _ _
  have al:Below R.heap.size R W8:=YJ.trans (lI.mono YJ.size);have Wx:Below w.heap.size w W8:=HB.out.trans (al.mono HB.out.size);have D:=vR z K N W8 (by omega) (aD.mono Wx.size _ _ _ (aD.below Wx (ab9 _) _ _ _ FW));rw[QL]at D;obtain⟨q, aw⟩:=ag (aB z);rw[aw]at D a6;have c2:q<=1000000:=by omega
  have Af:=kH D5;obtain⟨⟨p0,p1,p2,p3,p4⟩,-⟩:=D5.five;have cw:=D5.lt;have a1:=kH al;have Km:=kH Wx;have qC:=kH D;have HZ:Hid (u.kids[i]? =some z/\aB z=q/\aB z<aB u/\aD w w.heap.size K 0 z.kids/\z.kind=U/\z.text=X/\z.at_=S/\z.end_=T/\z.kids.length=Z):=kH ⟨hz,aw,by have h1:=dI u.kids i z hz;have h2:=fe u.kids (i+1);have h3:=mY u;omega,FW,ay,b8,xI,zZ,sV⟩;have ry:=kH bl;have We:(i:Int)<(n:Int):=by omega
  have cJ:IntKind.i64.wrap ((i:Int)+1)=(i:Int)+1:=IntWalk.i64_in _ (by omega);have cM:IntKind.i64.wrap ((j:Int) - (q:Int))=(j:Int) - (q:Int):=IntWalk.i64_in _ (by omega);have ba:=kH c7;have bb:Hid (R.heap.size<=H):=kH (by rw[<- VZ];exact YJ.size);clear bu hz F hT FW D YJ G ax aw ay b8 xI zZ sV QL bl ar lI D5 al Wx;go_wp2_with (first|rw[tF]|rw[VZ])
  clear tF VZ t0 t1 t2 t3 t4 c1 p0 p1 p2 p3 p4 cw;refine qC.out.mono ?_;rintro e V ⟨rfl,d⟩;have M9:Hid (Below R.heap.size R V):=kH (a1.out.trans (d.mono a1.out.size));have af:Hid (Below w.heap.size w V):=kH (Km.out.trans (d.mono Km.out.size));have ZH:=kH (Af.out.below d Af.out.lt);clear d;rcases a6 with⟨cA,P⟩| ⟨cf,O⟩
  ·have b0:¬((j:Int)<(q:Int)):=by omega
   have ca:decide ((j:Int)<(q:Int))=false:=decide_eq_false b0;have bN:=kH P;clear P;go_wp2_with fail
   go_roundg (gk - 1)
   case measure=>have:=ry.out;omega
   exact⟨i+1,j - q,by congr 1;omega,rfl,by simp,by have:=ry.out;omega,by have:=ba.out;omega,bN.out,M9.out⟩
  have b2:(j:Int)<(q:Int):=by omega
  have b1:decide ((j:Int)<(q:Int))=true:=decide_eq_true b2;have bI:=kH O;clear O;go_wp2_with fail
  have fE:∀W,ah W H 24 #[.int .i64 U,.string X,.int .i64 S,.int .i64 T,.slice K Z N]->W.cell? ⟨H,0,none⟩=some (.int .i64 U)/\W.cell? ⟨H,1,none⟩=some (.string X)/\W.cell? ⟨H,2,none⟩=some (.int .i64 S)/\W.cell? ⟨H,3,none⟩=some (.int .i64 T)/\W.cell? ⟨H,4,none⟩=some (.slice K Z N):=fun W hb=>hb.five.1
  have bh:=fE V.drew ZH.out.drew;refine O9 (fun W=>W.cell? ⟨H,0,none⟩=some (.int .i64 U)/\W.cell? ⟨H,1,none⟩=some (.string X)/\W.cell? ⟨H,2,none⟩=some (.int .i64 S)/\W.cell? ⟨H,3,none⟩=some (.int .i64 T)/\W.cell? ⟨H,4,none⟩=some (.slice K Z N)) [] [(0,true),(1,true),(4,true),(2,false),(3,false),(5,false),(6,false)] (by kernel_rfl) (by kernel_rfl) rfl (by kernel_rfl) ?_
  iterate 3
   refine Xi (by simp only[acj,aci,ach];rfl) (by rfl) bh (by intro w' bZ;obtain⟨cD,cE,cF,cG,cH⟩:=bZ;go_simp;rfl) ?_;simp only[Act.put,sA,sZ,sC]
  obtain⟨Y, L⟩:=ag (V.drew.alloc (.cells #[.int .i64 (i:Int)] 3));have gM:Below V.heap.size V Y:=by rw[<- L];exact((Below.refl _ _).drew).alloc (ab9 _) _
  have mX:ah Y V.heap.size 3 #[.int .i64 (i:Int)]:=by rw[<- L];exact ah.new _ _ _
  have an:=ZH.out.below gM ZH.out.lt;have nL:aG Y (w.heap.size+1) 3 1 (.slice I B pc) B (yL p):=(HO.out.below M9.out (fun g hg=>(HO.out.lt g hg).2)).below gM (fun g hg=>by have:=(HO.out.lt g hg).2;have:=M9.out.size;omega);have o9:ah Y w.heap.size 24 _:=r.out.below (M9.out.trans (gM.mono M9.out.size)) r.out.lt;have av:=af.out.size;have b5:w.heap.size<V.heap.size:=Nat.lt_of_lt_of_le r.out.lt M9.out.size;refine Pb (w':=Y) (v:=.slice (some ⟨V.heap.size,0,none⟩) 1 1) (by simp only[acj,aci,ach];rfl) (by rfl) (by first|(go_simp;done)|(go_simp;exact L)|(go_simp;exact⟨rfl,L⟩)) (fun _=>fE _ an) ?_;simp only[Act.put,sA,sZ,sC];refine ZT (by simp only[acj,aci,ach];rfl) (by rfl) ?_;refine(fG _ (.tmp 35) (.tmp 37) _ rfl (w.heap.size+1) 3 i0 _ 1 8 Tryz.underlying28 c5 cq cr cv rfl (.slice I B pc) B (yL p) rfl nL ⟨V.heap.size,0,none⟩ 1 1 [.int .i64 (i:Int)] rfl rfl (lU _ _ _ (mX.cell 0)) (by simp[Value.oneCell']) (by simp only[maxLen];omega) (by omega) (by have:=gM.size;omega) ?_);intro v6 w6 J E c0;obtain⟨A6,c6,cl,-,-⟩:=J.shape;subst cl;have bp:some w.heap.size≠(Value.slice I B pc).ownBlock:=fun h=>by have:=(HO.out.lt _ h.symm).1;omega
  have b6:some H≠(Value.slice I B pc).ownBlock:=fun h=>by have:=(HO.out.lt _ h.symm).2;have:=bb.out;omega
  have Bv:ah w6 w.heap.size 24 _:=ah.grown o9 E bp;have Ra:ah w6 H 24 _:=ah.grown an E b6;have br:ak (fun g=>w.heap.size+1<=g) Y w6:=(ak.refl (fun g=>w.heap.size+1<=g) Y).grown E (fun g hg=>.inl (HO.out.lt g hg).1);have aq:Below w.heap.size w w6:=(af.out.trans (gM.mono af.out.size)).trans (br.toBelow (by have:=gM.size;omega) (fun g hg=>by omega));have DX:=fE _ Ra;refine⟨fun _=>DX,?_⟩;simp only[Act.put,sA,sZ,sC];obtain⟨⟨y0,y1,y2,y3,y4⟩,g0,g1,g2,g3,g4⟩:=Bv.five;have l6:=Bv.lt;refine Pb (w':=w6) (by simp only[acj,aci,ach];rfl) (by rfl) (by go_simp;rfl) (fun _=>DX) ?_;simp only[Act.put,sA,sZ,sC];obtain⟨W7, rQ⟩:=ag (fZ w6 w.heap.size (.int .i64 U) (.string X) (.int .i64 S) (.int .i64 T) (.slice K Z N));have ad:ak (fun x=>x=w.heap.size) w6 W7:=by rw[<- rQ];exact kI
  have FP:ah W7 w.heap.size 24 #[.int .i64 U,.string X,.int .i64 S,.int .i64 T,.slice K Z N]:=by rw[<- rQ];exact ah.tZ Bv _ _ _ _ _
  have jP:Below w.heap.size w W7:=aq.trans (ad.toBelow aq.size (fun g hg=>by omega));have FV:=fE _ (Ra.since ad (by have:=bb.out;have:=r.out.lt;omega))
  have Lm:aG W7 (w.heap.size+1) 3 1 (.slice A6 (B+1) c6) (B+1) (yL (p++[i])):=by
   have h1:=J.since ad (fun g hg hq=>by have:=(J.lt g hg).1;omega);have h2:yL (p++[i])=yL p++[.int .i64 (i:Int)]:=by simp[yL]
   rw[h2];exact h1
  have ZC:=kH FP;have sM:=kH jP;have Sb:=kH Lm;have cn:fZ w6 w.heap.size (.int .i64 U) (.string X) (.int .i64 S) (.int .i64 T) (.slice K Z N)=W7:=rQ;unfold fZ at rQ;refine Xj (w':=W7) (by simp only[acj,aci,ach];rfl) (by rfl) (by go_simp) (fun _=>FV) ?_;simp only[Act.put];refine ZR ?_;clear rQ cn ad FP jP Lm J E c0 bp b6 Bv Ra br aq DX FV fE bh g0 g1 g2 g3 g4 y0 y1 y2 y3 y4 l6 b4 lb L gM mX an nL o9 av b5;go_wp2_with fail
  go_roundg (go - 1)
  case measure=>have:=bc.out;omega
  obtain⟨z1,z2,z3,z4,z5,z6,z7,z8,z9⟩:=HZ.out;have b7:(p++[i]).length=B+1:=by rw[acm,bP.out];rfl
  refine⟨z,K,N,j,p++[i],A6,B+1,c6,?_,rfl,rfl,b7,sM.out,?_,Sb.out,Ji HF.out z1,bI.out,z4,?_⟩
  ·have:=bc.out;have:=ba.out;omega
  ·rw[z5,z6,z7,z8,z9];exact ZC.out
  have:=Sm.out;omega
theorem Z4(B:Nat)(t y:ae)(A:Option Addr)(c:Nat)(p:List Nat)(PA:Option Addr)(K pc:Nat)(w:World)(hB:B<=w.heap.size)(f:p.length=K)(ay:K<=1000000)(hk:aD w B A 0 t.kids)(M:aS 1 gU w w.heap.size PA p)(hf:nM t p=some y):
 Calls Tryz.prog 176 #[aO t A c,.slice PA K pc] w fun e w'=> ∃X c',e= .returned (.tuple #[aO y X c',.bool true])/\aD w B X 0 y.kids/\Below w.heap.size w w':=by
 obtain⟨k0,x0,a0,z0,n0,k,a1,m,a6,j,dH⟩:=aW t A c;rw[dH];have HP:=kH f;have HK:=kH hk;have HR:=kH M;have HF:=kH hf;have qQ:Hid (t.kind=k0/\t.text=x0/\t.at_=a0/\t.end_=z0/\t.kids.length=n0):=kH ⟨k,a1,m,a6,j⟩;clear f hk M hf k a1 m a6 j dH;go_in
 obtain⟨W2, E⟩:=ag ((w.alloc (.cells #[.int .i64 k0,.string x0,.int .i64 a0,.int .i64 z0,.slice A n0 c] 24)).alloc (.cells #[.int .i64 0,.string ⟨#[]⟩,.int .i64 0,.int .i64 0,.slice none 0 0] 24));have l:Below w.heap.size w W2:=by rw[<- E];exact((Below.refl _ w).alloc (ab9 _) _).alloc (by simp) _
 have gN:ah W2 w.heap.size 24 #[.int .i64 k0,.string x0,.int .i64 a0,.int .i64 z0,.slice A n0 c]:=by rw[<- E];exact(ah.new w _ _).alloc _
 have n:ah W2 (w.heap.size+1) 24 #[.int .i64 0,.string ⟨#[]⟩,.int .i64 0,.int .i64 0,.slice none 0 0]:=by
  rw[<- E];have:=ah.new (w.alloc (.cells #[.int .i64 k0,.string x0,.int .i64 a0,.int .i64 z0,.slice A n0 c] 24)) 24 #[.int .i64 0,.string ⟨#[]⟩,.int .i64 0,.int .i64 0,.slice none 0 0];simpa using this
 have a7:=kH l;have a8:=kH gN;have aa:=kH n;clear l gN n;go_wp2_with (rw[E])
 clear E;go_loopg [10] K (fun gk av wr=> ∃(i:Nat) (u:ae) (L:Option Addr) (O:Nat),i+gk=K/\av= .int .i64 (i:Int)/\Below w.heap.size w wr/\ah wr w.heap.size 24 #[.int .i64 u.kind,.string u.text,.int .i64 u.at_,.int .i64 u.end_,.slice L u.kids.length O]/\ah wr (w.heap.size+1) 24 #[.int .i64 0,.string ⟨#[]⟩,.int .i64 0,.int .i64 0,.slice none 0 0]/\nM u (p.drop i)=some y/\aD w B L 0 u.kids)
 case atStart=>
  obtain⟨h1,h2,h3,h4,h5⟩:=qQ.out;exact⟨0,t,A,c,by omega,rfl,a7.out,by rw[h1,h2,h3,h4,h5];exact a8.out,aa.out,HF.out,HK.out⟩
 obtain⟨i,u,L,O,hi,rfl,D,P,Q,W,N7⟩:=hrel;obtain⟨ku, QQ⟩:=ag u.kind;obtain⟨xu, I⟩:=ag u.text;obtain⟨au, Q0⟩:=ag u.at_;obtain⟨zu, J⟩:=ag u.end_;obtain⟨nu, G⟩:=ag u.kids.length;rw[QQ,I,Q0,J,G]at P;have HI:=kH hi;have HB:=kH D;have HT:=kH P;have HZ:=kH Q;obtain⟨⟨b0,b1,b2,b3,b4⟩,g0,g1,g2,g3,g4⟩:=P.five;have lb:=P.lt;have ax:i<=K:=by omega
 by_cases af:i<K
 ·obtain⟨q,hq⟩:∃q,p[i]? =some q:=⟨_,ace (by rw[HP.out];exact af)⟩
  have hd:p.drop i=q::p.drop (i+1):=by
   obtain⟨h1,h2⟩:=acg.1 hq;rw[List.drop_eq_getElem_cons h1,h2]
  rw[hd,nM]at W;obtain⟨z,hz,Z⟩:=Option.bind_eq_some_iff.1 W;obtain⟨rb,ro,ab,ar,d⟩:=HR.out i q hq;subst ab;have b6:wr.cell? ⟨rb,ro+i,none⟩=some (.int .i64 (q:Int)):=(D.cell (p:=⟨rb,_,none⟩) ar).trans (by simpa using d 0 _ rfl);obtain⟨vals,⟨b,H,hA,aw,C⟩,Je⟩:=N7.get q z hz;rw[Nat.zero_add]at C;obtain⟨N,V,iY,FW⟩:=Je.five;subst hA;subst iY;have FO:q<nu:=by rw[<- G];exact(acg.1 hz).1
  obtain⟨kz,xz,az,ez,zn,R,T,xI,zZ,sV,-⟩:=aW z N V;rw[R,T,xI,zZ,sV]at C;have F:b<w.heap.size:=by omega
  have t0:wr.cell? ⟨b,H+q*5,none⟩=some (.int .i64 kz):=(D.cell (p:=⟨b,_,none⟩) F).trans (C 0 _ rfl);have t1:wr.cell? ⟨b,H+q*5+1,none⟩=some (.string xz):=(D.cell (p:=⟨b,_,none⟩) F).trans (C 1 _ rfl);have t2:wr.cell? ⟨b,H+q*5+2,none⟩=some (.int .i64 az):=(D.cell (p:=⟨b,_,none⟩) F).trans (C 2 _ rfl);have t3:wr.cell? ⟨b,H+q*5+3,none⟩=some (.int .i64 ez):=(D.cell (p:=⟨b,_,none⟩) F).trans (C 3 _ rfl);have t4:wr.cell? ⟨b,H+q*5+4,none⟩=some (.slice N zn V):=(D.cell (p:=⟨b,_,none⟩) F).trans (C 4 _ rfl);have al:(i:Int)<(K:Int):=by omega
  have an:¬((q:Int)<0):=by omega
  have b5:(q:Int)<(nu:Int):=by omega
  have aq:¬((nu:Int)<=(q:Int)):=by omega
  have ao:decide ((q:Int)<0)=false:=decide_eq_false an;have aE:decide (nu<=q)=false:=decide_eq_false (by omega);have NL:IntKind.i64.wrap ((i:Int)+1)=(i:Int)+1:=IntWalk.i64_in _ (by omega);obtain⟨Y, rQ⟩:=ag (fZ wr w.heap.size (.int .i64 kz) (.string xz) (.int .i64 az) (.int .i64 ez) (.slice N zn V));have S:ak (fun x=>x=w.heap.size) wr Y:=by rw[<- rQ];exact kI
  have YG:ah Y w.heap.size 24 #[.int .i64 kz,.string xz,.int .i64 az,.int .i64 ez,.slice N zn V]:=by rw[<- rQ];exact ah.tZ P _ _ _ _ _
  have HQ:Hid (Below w.heap.size w Y/\ah Y w.heap.size 24 #[.int .i64 z.kind,.string z.text,.int .i64 z.at_,.int .i64 z.end_,.slice N z.kids.length V]/\ah Y (w.heap.size+1) 24 #[.int .i64 0,.string ⟨#[]⟩,.int .i64 0,.int .i64 0,.slice none 0 0]/\nM z (p.drop (i+1))=some y/\aD w B N 0 z.kids):=kH ⟨D.trans (S.toBelow D.size (fun g hg=>by omega)),by rw[R,T,xI,zZ,sV];exact YG,Q.since S (by omega),Z,FW⟩;unfold fZ at rQ;clear hi D P Q W Z N7 QQ I Q0 J G hq hd hz d C Je FW R T xI zZ sV S YG;go_wp2_with (rw[rQ])
  go_roundg (gk - 1)
  case measure=>have:=HI.out;omega
  exact⟨i+1,z,N,V,by have:=HI.out;omega,by simp,HQ.out⟩
 have ad:i=K:=by omega
 subst ad
 have U:u=y:=by
  rw[List.drop_of_length_le (by rw[HP.out];exact ab9 _)]at W;simpa [nM] using W
 obtain⟨⟨r0,r1,r2,r3,r4⟩,h0,h1,h2,h3,h4⟩:=Q.five;have lr:=Q.lt;obtain⟨W9, nC⟩:=ag (fZ wr (w.heap.size+1) (.int .i64 ku) (.string xu) (.int .i64 au) (.int .i64 zu) (.slice L nu O));have I8:ak (fun x=>x=w.heap.size+1) wr W9:=by rw[<- nC];exact kI
 have r:ah W9 (w.heap.size+1) 24 #[.int .i64 ku,.string xu,.int .i64 au,.int .i64 zu,.slice L nu O]:=by rw[<- nC];exact ah.tZ Q _ _ _ _ _
 have bT:Hid (∃X c',Ending.returned (.tuple #[.agg #[.int .i64 ku,.string xu,.int .i64 au,.int .i64 zu,.slice L nu O],.bool true])= .returned (.tuple #[aO y X c',.bool true])/\aD w B X 0 y.kids/\Below w.heap.size w W9):=kH ⟨L,O,by rw[<- U,<- QQ,<- I,<- Q0,<- J,<- G];rfl,by rw[<- U];exact N7,D.trans (I8.toBelow D.size (fun g hg=>by omega))⟩;obtain⟨⟨y0,y1,y2,y3,y4⟩,-⟩:=r.five;unfold fZ at nC;clear hi D P Q W N7 QQ I Q0 J G I8 r U;go_wp2_with (rw[nC])
 try simp only[Exit.inBlock,Exit.then]
 refine bodyPost_ret (v:=.tuple #[.agg #[.int .i64 ku,.string xu,.int .i64 au,.int .i64 zu,.slice L nu O],.bool true]) (by simp[results,Tryz.results176,go_sem,y0,y1,y2,y3,y4]) rfl ?_;exact bT.out
theorem gF.get{w:World}{B:Nat}:∀{ts:List ae}{F:List (List Value)},gF w B ts F->∀{j:Nat}{x:ae},ts[j]? =some x->∃C,jH w B x C/\∀q u,C[q]? =some u->(List.flatten F)[j*5+q]? =some u
 | [],_,_,j,x,h=>by cases h
 | t::ts,vs0,h0,j,x,h=>by
  obtain⟨v,F,rfl,G,H⟩:=h0;obtain⟨A,c,L,-⟩:=G.five;have K:v.length=5:=by rw[L];rfl
  cases j with
  | zero=>
   simp only[ach,acf]at h;subst h;refine⟨v,G,fun q u D=>?_⟩;have E:=(acg.1 D).1;rw[List.flatten_cons,Nat.zero_mul,Nat.zero_add,List.getElem?_append_left E];exact D
  | succ j=>
   rw[aci]at h;obtain⟨C,I,J⟩:=gF.get H h;refine⟨C,I,fun q u D=>?_⟩;rw[List.flatten_cons,ack (by omega),K,show(j+1)*5+q - 5=j*5+q by omega];exact J q u D
theorem KR:∀(p:List Nat),yL p=p.flatMap gU
 | []=>rfl
 | i::p=>by
  rw[List.flatMap_cons,<- KR p];rfl
end Go.Proofs.YtoepemlnlpamlaaGreat
namespace Go.Proofs.YtoepemlnlpamlaaGreat
theorem GG{K V:Type}[DecidableEq K]:∀{l:List (K×V)}{k:K}{v:V},(l.map (·.1)).Nodup->(k,v)∈l->bK l k=some v
 | [],_,_,_,h=>by cases h
 | x::l,k,v,hn,h=>by
  rw[List.map_cons,List.nodup_cons]at hn;rw[bK];rcases List.mem_cons.1 h with rfl|h
  ·rw[if_pos rfl]
  by_cases A:k=x.1
  ·exact absurd (List.mem_map.2 ⟨_,h,A⟩) hn.1
  rw[if_neg A];exact GG hn.2 h
theorem G6:∀{s:aR}{x:ByteArray}{n:Int},(s.flatten.map (·.1)).Nodup->(x,n)∈s.flatten->fF s x=some n
 | [],_,_,_,h=>by cases h
 | l::s,x,n,hn,h=>by
  rw[List.flatten_cons,List.map_append,List.nodup_append]at hn;obtain⟨B,C,D⟩:=hn;rw[List.flatten_cons,List.mem_append]at h;rw[fF];rcases h with h|h
  ·have:aV l x=some n:=GG B h
   rw[this]
  have G:aV l x=none:=by
   cases F:aV l x with
   | none=>rfl
   | some k=>
    have E:(x,k)∈[l].flatten:=G7 (s:=[l]) (by rw[fF,F]);have A:(x,k)∈l:=by simpa using E
    exact absurd rfl (D x (List.mem_map.2 ⟨_,A,rfl⟩) x (List.mem_map.2 ⟨_,h,rfl⟩))
  rw[G];exact G6 C h
theorem YY{y:ByteArray}{a e:Int}{A:List ae}(h:(aM (.node 4 y a e A)).all dJ=true){j:Nat}{x:ae}(L:(bg A)[j]? =some x):x.kind=9:=by
 have H:=fU (t:=.node 4 y a e A) h;rw[aM,List.all_cons,acb]at h;obtain⟨sh,K,J⟩:=fM h.1;obtain⟨-,-,M⟩:=jg J;have N:some _=some sh:=K;cases N
 obtain⟨q,F,B⟩:∃q∈A,x∈aM q:=by
  have C:=acn L;clear L M J h K H
  induction A with
  | nil=>rw[bg]at C;cases C
  | cons t ts ih=>
   rw[bg,List.mem_append]at C;rcases C with C|C
   ·exact⟨t,by simp,C⟩
   obtain⟨q,F,B⟩:=ih C;exact⟨q,by simp[F],B⟩
 obtain⟨p1,O,E⟩:=lM _ A 0 M q F
 have G:p1=bA [9]:=by
  have:p1∈[bA [9]]:=O.resolve_left (fun h=>by cases h);simpa using this
 rw[G]at E;have I:q.kind=9:=by simpa [bA] using E
 have D:=JK (H q F) I;rw[iK,D,bg,List.mem_singleton]at B;rw[B,I]
open Go.RowKit
theorem JE{A:Type}{l:List A}{i:Nat}{x:A}(h:l[i]? =some x):l.take (i+1)=l.take i++[x]:=by
 rw[List.take_add_one,h];rfl
def Zo(E:CE)(t:ae):Prop:=aO t E.rA E.rc= .agg #[.int .i64 E.rk,.string E.rx,.int .i64 E.ra,.int .i64 E.rz,.slice E.rA E.rn E.rc]
theorem Nz(E:CE)(out:List bD)(nx rs:Int)(w:World)(h:PC E out nx rs w)(t:ae)(hr:Zo E t)(B:Nat)(z:B<=w.heap.size)(hk:aD w B E.rA 0 t.kids)(hN:aB t<=1000000)(m:Nat)(y:ae)(hy:(aM t)[m]? =some y):
 Calls Tryz.prog 110 #[.pointer (some ⟨E.cb,0,none⟩),.int .i64 (m:Int)] w fun e w'=> ∃D I,e= .returned (aO y D I)/\aD w' B D 0 y.kids/\Below w.heap.size w w':=by
 obtain⟨oA,oc,hC,-⟩:=h;have VS:∀W,Below w.heap.size w W->Calls Tryz.prog 175 #[aO t E.rA E.rc,.int .i64 (m:Int)] W _:=fun W c=>XA t E.rA E.rc m y W hN (aD.mono (aca z c.size) _ _ _ (aD.below c z _ _ _ hk)) hy
 have H:∀W,Below w.heap.size w W->∀(p:List Nat) (X:Option Addr) (V pc:Nat),p.length=V->V<=1000000->aS 1 gU W W.heap.size X p->nM t p=some y->Calls Tryz.prog 176 #[aO t E.rA E.rc,.slice X V pc] W _:=fun W c p X V pc h1 h2 h3 h4=>Z4 B t y E.rA E.rc p X V pc W (aca z c.size) h1 h2 (aD.below c z _ _ _ hk) h3 h4
 rw[hr]at VS H;obtain⟨W1, K⟩:=ag (w.alloc (.cells #[.int .i64 0,.string ⟨#[]⟩,.int .i64 0,.int .i64 0,.slice none 0 0] 24));have S:Below w.heap.size w W1:=by rw[<- K];exact ai _ _
 have d:ah W1 w.heap.size 24 #[.int .i64 0,.string ⟨#[]⟩,.int .i64 0,.int .i64 0,.slice none 0 0]:=by rw[<- K];exact ah.new _ _ _
 have P:=hC.below S hC.lt;have F:=kH VS;have N:=kH H;have Q:=kH S;have j:=kH d;have vV:=kH P;have Su:=kH z;have c0:=P.cell 0;have c1:=P.cell 1;have c2:=P.cell 2;have c3:=P.cell 3;have c4:=P.cell 4;have lc:=P.lt;clear VS H S d P hC hk hy z;go_in
 go_wp2_with (rw[K])
 clear K;refine(F.out _ Q.out).mono ?_;rintro e w2 ⟨p,X,V,pc,rfl,T,hf,a7,hO,M⟩;have J:Hid (Below w.heap.size w w2):=kH (Q.out.trans (M.mono Q.out.size));have hg:=N.out w2 J.out p X V pc T a7 (hO.rowAt (cells:=gU) (l:=p) rfl (KR p) (fun _ _=>rfl) T) hf;have HG:=kH hg;have A:=vV.out.below M vV.out.lt;have g:=kH (j.out.below M j.out.lt);have d0:=A.cell 0;have d1:=A.cell 1;have d2:=A.cell 2;have d3:=A.cell 3;have d4:=A.cell 4;have ld:=A.lt;clear hg T hf hO M A c0 c1 c2 c3 c4 lc N F;go_wp2_with fail
 refine HG.out.mono ?_;rintro e w3 ⟨D,I,rfl,a1,G⟩;obtain⟨x,r,Y,n,u,-,-,-,-,-,dH⟩:=aW y D I;rw[dH];have k:Below w.heap.size w w3:=J.out.trans (G.mono J.out.size);have R:=g.out.below G g.out.lt;obtain⟨g7, Cf⟩:=ag w3.heap.size;obtain⟨W4, iV⟩:=ag (w3.alloc (.cells #[.int .i64 x,.string r,.int .i64 Y,.int .i64 n,.slice D u I] 24));have C:Below w3.heap.size w3 W4:=by rw[<- iV];exact ai _ _
 have DZ:ah W4 g7 24 #[.int .i64 x,.string r,.int .i64 Y,.int .i64 n,.slice D u I]:=by rw[<- iV,<- Cf];exact ah.new _ _ _
 have L:=R.below C R.lt;obtain⟨Z, hZ⟩:=ag (fZ W4 w.heap.size (.int .i64 x) (.string r) (.int .i64 Y) (.int .i64 n) (.slice D u I));have U:ak (fun q=>q=w.heap.size) W4 Z:=by rw[<- hZ];exact kI
 have f:ah Z w.heap.size 24 #[.int .i64 x,.string r,.int .i64 Y,.int .i64 n,.slice D u I]:=by rw[<- hZ];exact ah.tZ L _ _ _ _ _
 have b:Below w.heap.size w Z:=(k.trans (C.mono k.size)).trans (U.toBelow (aca k.size C.size) (fun q hq=>by omega));have O:Below B w2 Z:=((G.trans (C.mono G.size)).mono (aca Su.out J.out.size)).trans (U.toBelow (aca Su.out (aca k.size C.size)) (fun q hq=>by have:=Su.out;omega));have a6:=aD.below O (ab9 _) _ _ _ a1;have bT:Hid (∃A1 c1,Ending.returned (.agg #[.int .i64 x,.string r,.int .i64 Y,.int .i64 n,.slice D u I])= .returned (aO y A1 c1)/\aD Z B A1 0 y.kids/\Below w.heap.size w Z):=kH ⟨D,I,by rw[dH],a6,b⟩;obtain⟨⟨n0,n1,n2,n3,n4⟩,-⟩:=DZ.five;have ln:=DZ.lt;obtain⟨⟨r0,r1,r2,r3,r4⟩,f0,f1,f2,f3,f4⟩:=L.five;have lr:=L.lt;obtain⟨⟨q0,q1,q2,q3,q4⟩,-⟩:=f.five;unfold fZ at hZ;clear a1 G k R C DZ L U f b dH O a6 d0 d1 d2 d3 d4 ld;go_wp2_with (first|rw[iV]|rw[Cf]|rw[hZ])
 try simp only[Exit.inBlock,Exit.then]
 refine bodyPost_ret (v:=.agg #[.int .i64 x,.string r,.int .i64 Y,.int .i64 n,.slice D u I]) (by simp[results,Tryz.results110,go_sem,q0,q1,q2,q3,q4]) rfl ?_;exact bT.out
def bR:List ae->Nat->List Int
 | [],_=>[]
 | t::ts,a=>(a:Int)::bR ts (a+aB t)
theorem yY:∀(ts:List ae) (a:Nat),(bR ts a).length=ts.length
 | [],_=>rfl
 | t::ts,a=>by rw[bR,aco,aco,yY ts]
theorem KS:∀(ts:List ae) (t:ae) (a:Nat),bR (ts++[t]) a=bR ts a++[((a+aC ts:Nat):Int)]
 | [],t,a=>by simp[bR,aC]
 | x::ts,t,a=>by rw[List.cons_append,bR,bR,KS ts t,List.cons_append,aC,Nat.add_assoc]
theorem yZ{ts:List ae}{a i:Nat}(h:i<ts.length):(bR ts a)[i]? =some ((a+aC (ts.take i):Nat):Int):=by
 induction ts generalizing a i with
 | nil=>simp at h
 | cons t ts ih=>
  cases i with
  | zero=>simp[bR,aC]
  | succ i=>
   rw[bR,aci,ih (by simpa using h),List.take_succ_cons,aC,Nat.add_assoc]
theorem CO(t:ae)(A:Option Addr)(c num:Nat)(w:World)(hN:num+aB t<=1000000)(hk:aD w w.heap.size A 0 t.kids):
 Calls Tryz.prog 104 #[aO t A c,.int .i64 (num:Int)] w fun e w'=> ∃VA vn O,e= .returned (.slice VA vn O)/\t.kids.length=vn/\aG w' w.heap.size 3 1 (.slice VA vn O) vn (bL (bR t.kids (num+1)))/\Below w.heap.size w w':=by
 obtain⟨i0,a8,al,an,ao⟩:=info_parts mH;have k:=mY t;have j:=dO t.kids;obtain⟨k0,x0,a0,z0,n,-,-,-,-,hn,dH⟩:=aW t A c;rw[dH];obtain⟨B, lF⟩:=ag t.kids;rw[lF]at k j hk hn⊢;obtain⟨y, M⟩:=ag (w.alloc (.cells #[.int .i64 k0,.string x0,.int .i64 a0,.int .i64 z0,.slice A n c] 24));have q:Below w.heap.size w y:=by rw[<- M];exact ai _ _
 have L:ah y w.heap.size 24 #[.int .i64 k0,.string x0,.int .i64 a0,.int .i64 z0,.slice A n c]:=by rw[<- M];exact ah.new _ _ _
 have HK:=kH hk;have HN:=kH hn;have Y:=kH q;have Md:Hid (num+1+aC B<=1000000/\w.heap.size<y.heap.size):=kH ⟨by omega,L.lt⟩;have aw:n<=1000000:=by omega
 have ax:IntKind.i64.wrap ((num:Int)+1)=(num:Int)+1:=IntWalk.i64_in _ (by omega);have c4:=L.cell 4;have lc:=L.lt;clear k j lF hk hn q L dH hN;go_in
 go_wp2_with (rw[M])
 clear M c4 lc;go_loopg [5,6,14] n (fun gk s5 s6 PV wr=> ∃(i:Nat) (VA:Option Addr) (O a:Nat),i+gk=n/\s5= .slice VA i O/\s6= .int .i64 (a:Int)/\PV= .int .i64 (i:Int)/\num+1+aC (B.take i)=a/\aG wr (w.heap.size+1) 3 1 (.slice VA i O) i (bL (bR (B.take i) (num+1)))/\Below (w.heap.size+1) y wr)
 case atStart=>exact⟨0,none,0,num+1,by omega,rfl,by congr 1,rfl,by simp[aC],aG.nil _ _ _ _,Below.refl _ _⟩
 obtain⟨i,VA,O,a,hi,rfl,rfl,rfl,ha,U,T⟩:=hrel;have HI:=kH hi;have HA:=kH ha;have HO:=kH U;have HB:=kH T;have av:i<=n:=by omega
 have Ho:Hid (w.heap.size+1<=wr.heap.size):=kH (by have:=Md.out.2;have:=T.size;omega);by_cases ad:i<n
 ·obtain⟨z,hz⟩:∃z,B[i]? =some z:=⟨_,ace (by rw[HN.out];exact ad)⟩
  obtain⟨vals,⟨b,J,hA,F,E⟩,hT⟩:=HK.out.get i z hz;rw[Nat.zero_add]at E;obtain⟨X,r,iY,FW⟩:=hT.five;subst hA;subst iY;obtain⟨kz,xz,az,ez,zn,f,d,xI,zZ,sV,QL⟩:=aW z X r;rw[f,d,xI,zZ,sV]at E;have C:Below w.heap.size w wr:=Y.out.trans (T.mono (Nat.le_succ _));have t0:wr.cell? ⟨b,J+i*5,none⟩=some (.int .i64 kz):=(C.cell (p:=⟨b,_,none⟩) F).trans (E 0 _ rfl);have t1:wr.cell? ⟨b,J+i*5+1,none⟩=some (.string xz):=(C.cell (p:=⟨b,_,none⟩) F).trans (E 1 _ rfl);have t2:wr.cell? ⟨b,J+i*5+2,none⟩=some (.int .i64 az):=(C.cell (p:=⟨b,_,none⟩) F).trans (E 2 _ rfl);have t3:wr.cell? ⟨b,J+i*5+3,none⟩=some (.int .i64 ez):=(C.cell (p:=⟨b,_,none⟩) F).trans (E 3 _ rfl);have t4:wr.cell? ⟨b,J+i*5+4,none⟩=some (.slice X zn r):=(C.cell (p:=⟨b,_,none⟩) F).trans (E 4 _ rfl);have au:b<wr.heap.size:=Nat.lt_of_lt_of_le F C.size;have V:=dI B i z hz;have ab:=fe B (i+1);have G:=fun W (hb:Below w.heap.size w W)=>vR z X r W (by have:=Md.out.1;omega) (aD.mono hb.size _ _ _ (aD.below hb (ab9 _) _ _ _ FW))
  rw[QL]at G;obtain⟨u, l⟩:=ag (aB z);rw[l]at G V;have ar:a+u<=1000000:=by have:=Md.out.1;omega
  have Fq:=kH G;have jK:Hid (bR (B.take (i+1)) (num+1)=bR (B.take i) (num+1)++[(a:Int)]/\num+1+aC (B.take (i+1))=a+u):=kH ⟨by rw[JE hz,KS,ha],by rw[V];omega⟩;have af:(i:Int)<(n:Int):=by omega
  have NL:IntKind.i64.wrap ((i:Int)+1)=(i:Int)+1:=IntWalk.i64_in _ (by omega);have ay:IntKind.i64.wrap ((a:Int)+(u:Int))=(a:Int)+(u:Int):=IntWalk.i64_in _ (by omega);obtain⟨kb, N⟩:=ag wr.heap.size;obtain⟨x, tF⟩:=ag (wr.alloc (.cells #[.int .i64 kz,.string xz,.int .i64 az,.int .i64 ez,.slice X zn r] 24));have lI:Below wr.heap.size wr x:=by rw[<- tF];exact ai _ _
  have D5:ah x kb 24 #[.int .i64 kz,.string xz,.int .i64 az,.int .i64 ez,.slice X zn r]:=by rw[<- tF,<- N];exact ah.new _ _ _
  have v:=kH (U.below lI (fun g K=>(U.lt g K).2));have Cw:=kH (T.trans (lI.mono Ho.out));have Km:=kH (C.trans (lI.mono C.size));have Af:=kH D5;have aq:Hid (w.heap.size+1<=kb/\wr.heap.size=kb):=kH ⟨by rw[<- N];exact Ho.out,N⟩;have Xa:Hid (w.heap.size+1<=x.heap.size):=kH (by have:=lI.size;have:=Ho.out;omega);have aE:=D5.lt;clear hi ha U T hz E hT FW f d xI zZ sV QL C V ab G l lI F;go_wp2_with (first|rw[tF]|rw[N]|(at_builtin;go_must (refine dW _ rfl (.tmp 18) (.tmp 20) _ rfl (w.heap.size+1) 3 i0 _ 1 8 Tryz.underlying28 a8 al an ao rfl (.slice VA i O) i (bL (bR (B.take i) (num+1))) rfl (v.out.alloc _) ⟨x.heap.size,0,none⟩ 1 1 [.int .i64 (a:Int)] rfl rfl (lU _ _ _ (by go_simp)) (by simp[Value.oneCell']) (by simp only[maxLen];omega) (by omega) (by simp;have:=Xa.out;omega) ?_);intro vn w6 H D a6;obtain⟨A6,c6,qj,-,-⟩:=H.shape;subst qj;have Ra:=ah.grown (Af.out.alloc _) D (fun e1=>by have h1:=(v.out.lt _ e1.symm).1;have h2:=v.out.typed e1.symm;obtain⟨cs,h3⟩:=h2;have h4:x.heap[kb]? =some (Obj.cells _ _ (0,0)):=Af.out;rw[h3]at h4;simp at h4);obtain⟨⟨q0,q1,q2,q3,q4⟩,-⟩:=Ra.five;have l6:=Ra.lt;have m:Below w.heap.size w w6:=(Km.out.trans ((ai _ _).mono Km.out.size)).trans (((ak.refl (fun g=>w.heap.size+1<=g) _).grown D (fun g K=>.inl (v.out.lt g K).1)).toBelow (by have:=Xa.out;simp;omega) (fun g K=>by omega));have S:Below (w.heap.size+1) y w6:=(Cw.out.trans ((ai _ _).mono Xa.out)).trans (((ak.refl (fun g=>w.heap.size+1<=g) _).grown D (fun g K=>.inl (v.out.lt g K).1)).toBelow (by have:=Xa.out;simp;omega) (fun g K=>K));have R:=kH H;have zH:=kH m;have Q:=kH S;clear H D a6 Ra m S))
  refine(Fq.out _ zH.out).mono ?_;rintro e w7 ⟨rfl,jP⟩;have a7:w.heap.size+1<=w6.heap.size:=by have:=Q.out.size;have:=Md.out.2;omega
  have Sb:=kH (R.out.below jP (fun g K=>(R.out.lt g K).2));have sM:=kH (Q.out.trans (jP.mono a7));clear jP q0 q1 q2 q3 q4 l6;go_wp2_with fail
  go_roundg (gk - 1)
  case measure=>have:=HI.out;omega
  exact⟨i+1,A6,c6,a+u,by have:=HI.out;omega,rfl,by simp,by simp,jK.out.2,by rw[jK.out.1];simpa [bL] using Sb.out,sM.out⟩
 have aa:i=n:=by omega
 subst aa;have I:B.take i=B:=by rw[<- HN.out,List.take_length]
 have bT:Hid (∃Z P a1,Ending.returned (.slice VA i O)= .returned (.slice Z P a1)/\B.length=P/\aG wr w.heap.size 3 1 (.slice Z P a1) P (bL (bR B (num+1)))/\Below w.heap.size w wr):=kH ⟨VA,i,O,rfl,HN.out,by rw[I]at U;exact U.mono (Nat.le_succ _),Y.out.trans (T.mono (Nat.le_succ _))⟩;clear hi ha U T I;go_wp2_with fail
 go_ret
 exact bT.out
theorem CX.cell{base cb:Nat}{w w':World}(h:CX base cb w w'){g:Nat}{t:TypeId}{B:Array Value}(A:ah w g t B)(D:t≠110)(C:g≠cb)(o:Nat):w'.cell? ⟨g,o,none⟩=w.cell? ⟨g,o,none⟩:=by
 rw[A.cell,(h.blk A D C).cell]
theorem CX.Ev{base cb:Nat}{w w':World}(h:CX base cb w w'){F:Nat}{e:TypeId}{size g A n c:Nat}{G:List Value}(E:aG w F e size (.slice (some ⟨g,A,none⟩) n c) n G)(D:e≠110)(B:(Value.slice (some (⟨g,A,none⟩:Addr)) n c).ownBlock≠some cb)(o:Nat):w'.cell? ⟨g,o,none⟩=w.cell? ⟨g,o,none⟩:=by
 obtain⟨H,C⟩:=E.typed (g:=g) rfl;exact h.cell C D (fun e=>B (by rw[e];rfl)) o
theorem Mo(E:CE)(out:List bD)(P Q:Int)(w:World)(h:PC E out P Q w)(I:List Int)(B:Nat)(M:B<=w.heap.size)(K:aS 1 gu w B E.uA I)(F:I.length=E.un)(m:Nat)(v:Int)(G:I[m]? =some v)(A:v<0):
 Calls Tryz.prog 109 #[.pointer (some ⟨E.cb,0,none⟩),.int .i64 (m:Int)] w fun e w'=>e= .returned (.tuple #[.agg #[.int .i64 0,.string ⟨#[]⟩,.int .i64 0,.int .i64 0],.bool false])/\Below w.heap.size w w':=by
 obtain⟨U,V,D,-⟩:=h;obtain⟨H,L,J,O,C⟩:=K m v G;have W:w.cell? ⟨H,L+m,none⟩=some (.int .i64 v):=by simpa using C 0 _ rfl
 have S:w.cell? ⟨E.cb,7,none⟩=some (.slice (some ⟨H,L,none⟩) E.un E.uc):=by rw[<- J];exact D.cell 7
 have lc:=D.lt;have T:H<w.heap.size:=by omega
 have R:(m:Int)<(E.un:Int):=by have:=(acg.1 G).1;omega
 have N:decide (v<0)=true:=decide_eq_true A;clear D K F G J C M;go_in
 go_wp2_with fail
 try simp only[Exit.inBlock,Exit.then]
 refine bodyPost_ret (v:=.tuple #[.agg #[.int .i64 0,.string ⟨#[]⟩,.int .i64 0,.int .i64 0],.bool false]) (by simp[results,Tryz.results109,go_sem]) rfl ?_;exact⟨rfl,by(repeat first|exact .refl _ _|assumption|refine .trans ?_ (.mono (by assumption) ?_)|refine .alloc ?_ ?_ _|refine .setCell ?_ ?_ _|refine .drew ?_|refine aL ?_ _|omega|(simp<;>omega))⟩
theorem JC(E:CE)(out:List bD)(t r:Int)(w:World)(h:PC E out t r w)(R:List Int)(ds:List Dc)(B:Nat)(y:B<=w.heap.size)(Z:aS 1 gu w B E.uA R)(O:R.length=E.un)(Y:aS 4 bQ w B E.dA ds)(M:ds.length=E.dn)(m q:Nat)(d:Dc)(P:R[m]? =some (q:Int))(L:ds[q]? =some d):
 Calls Tryz.prog 109 #[.pointer (some ⟨E.cb,0,none⟩),.int .i64 (m:Int)] w fun e w'=>e= .returned (.tuple #[.agg #[.int .i64 d.kind,.string d.name,.int .i64 d.node,.int .i64 d.owner],.bool true])/\Below w.heap.size w w':=by
 obtain⟨oA,oc,K,-⟩:=h;obtain⟨Q,z,X,u,J⟩:=Z m _ P;obtain⟨C,D,F,oM,A⟩:=Y q d L;have u0:w.cell? ⟨Q,z+m,none⟩=some (.int .i64 (q:Int)):=by simpa using J 0 _ rfl
 obtain⟨T, G⟩:=ag d.kind;obtain⟨W, S⟩:=ag d.name;obtain⟨U, H⟩:=ag d.node;obtain⟨V, I⟩:=ag d.owner;unfold bQ at A;rw[G,S,H,I]at A⊢;have g:w.cell? ⟨C,D+q*4,none⟩=some (.int .i64 T):=by simpa using A 0 _ rfl
 have f:w.cell? ⟨C,D+q*4+1,none⟩=some (.string W):=by simpa using A 1 _ rfl
 have c:w.cell? ⟨C,D+q*4+2,none⟩=some (.int .i64 U):=by simpa using A 2 _ rfl
 have b:w.cell? ⟨C,D+q*4+3,none⟩=some (.int .i64 V):=by simpa using A 3 _ rfl
 have j:w.cell? ⟨E.cb,7,none⟩=some (.slice (some ⟨Q,z,none⟩) E.un E.uc):=by rw[<- X];exact K.cell 7
 have k:w.cell? ⟨E.cb,6,none⟩=some (.slice (some ⟨C,D,none⟩) E.dn E.dc):=by rw[<- F];exact K.cell 6
 have lc:=K.lt;have lu:Q<w.heap.size:=by omega
 have ld:C<w.heap.size:=by omega
 have n:(m:Int)<(E.un:Int):=by have:=(acg.1 P).1;omega
 have l:(q:Int)<(E.dn:Int):=by have:=(acg.1 L).1;omega
 have N:¬((q:Int)<0):=by omega
 have x:decide ((q:Int)<0)=false:=decide_eq_false N;clear K Z O Y M P L X F J A y G S H I;go_in
 go_wp2_with fail
 try simp only[Exit.inBlock,Exit.then]
 refine bodyPost_ret (v:=.tuple #[.agg #[.int .i64 T,.string W,.int .i64 U,.int .i64 V],.bool true]) (by simp[results,Tryz.results109,go_sem]) rfl ?_;exact⟨rfl,by(repeat first|exact .refl _ _|assumption|refine .trans ?_ (.mono (by assumption) ?_)|refine .alloc ?_ ?_ _|refine .setCell ?_ ?_ _|refine .drew ?_|refine aL ?_ _|omega|(simp<;>omega))⟩
def Fb(ks:List ae)(l1 l2:List Int)(i:Nat):List bD:=match ks[i]?,l1[i]?,l2[i]? with
 | some k,some a,some b=>[⟨1,a,b,0,0,⟨#[]⟩,k.at_,k.end_⟩]
 | _,_,_=>[]
def iH(ks:List ae)(l1 l2:List Int)(n:Nat):List bD:=(List.range n).flatMap (Fb ks l1 l2)
theorem xq(ks:List ae)(A B:List Int)(n:Nat):iH ks A B (n+1)=iH ks A B n++Fb ks A B n:=by
 unfold iH;rw[List.range_succ,List.flatMap_append];simp
theorem qY(ks:List ae)(A B:List Int):∀n,(iH ks A B n).length<=n
 | 0=>by simp[iH]
 | n+1=>by
  rw[xq,acm];have C:=qY ks A B n
  have D:(Fb ks A B n).length<=1:=by
   unfold Fb;split<;>simp
  omega
theorem Oi(E:CE)(out:List bD)(nx rs:Int)(w:World)(h:PC E out nx rs w)(F t2:ae)(A1 A2:Option Addr)(c1 c2:Nat)(B:Nat)(hB:B<=w.heap.size)(YK:B<=E.cb)(aq:B<=E.base)(O:E.base<=w.heap.size)(ay:aD w B A1 0 F.kids)(V1 V2:Option Addr)(n1 n2 d1 d2:Nat)(S L:List Int)(bl bm:Nat)(jv:aG w bl 3 1 (.slice V1 n1 d1) n1 (bL S))(v:aG w bm 3 1 (.slice V2 n2 d2) n2 (bL L))(aE:F.kids.length=n1)(ba:t2.kids.length=n2)(hN:out.length+n1<=1000000):
 Calls Tryz.prog 174 #[.pointer (some ⟨E.cb,0,none⟩),aO F A1 c1,.slice V1 n1 d1,aO t2 A2 c2,.slice V2 n2 d2] w fun e w'=>e= .returned (.tuple #[])/\PC E (out++iH F.kids S L n1) nx rs w'/\CX E.base E.cb w w':=by
 obtain⟨k0,x0,a0,z0,H,-,-,-,-,bd,l⟩:=aW F A1 c1;obtain⟨k9,x9,a9,z9,T,-,-,-,-,bj,k⟩:=aW t2 A2 c2;rw[l,k];have e1:H=n1:=by omega
 have e2:T=n2:=by omega
 subst e1 e2;obtain⟨W2, N⟩:=ag ((w.alloc (.cells #[.int .i64 k0,.string x0,.int .i64 a0,.int .i64 z0,.slice A1 H c1] 24)).alloc (.cells #[.int .i64 k9,.string x9,.int .i64 a9,.int .i64 z9,.slice A2 T c2] 24));have J:Below w.heap.size w W2:=by rw[<- N];exact((Below.refl _ w).alloc (ab9 _) _).alloc (by simp) _
 have gN:ah W2 w.heap.size 24 #[.int .i64 k0,.string x0,.int .i64 a0,.int .i64 z0,.slice A1 H c1]:=by rw[<- N];exact(ah.new w _ _).alloc _
 have au:ah W2 (w.heap.size+1) 24 #[.int .i64 k9,.string x9,.int .i64 a9,.int .i64 z9,.slice A2 T c2]:=by
  rw[<- N];have:=ah.new (w.alloc (.cells #[.int .i64 k0,.string x0,.int .i64 a0,.int .i64 z0,.slice A1 H c1] 24)) 24 #[.int .i64 k9,.string x9,.int .i64 a9,.int .i64 z9,.slice A2 T c2];simpa using this
 have EO:E.cb<w.heap.size:=by obtain⟨oA,oc,hC,-⟩:=h;exact hC.lt
 have ao:(Value.slice V1 H d1).ownBlock≠some E.cb:=by obtain⟨oA,oc,hC,-⟩:=h;exact jv.bB hC (by decide)
 have n:(Value.slice V2 T d2).ownBlock≠some E.cb:=by obtain⟨oA,oc,hC,-⟩:=h;exact v.bB hC (by decide)
 have M:=kH J;have b4:=kH gN;have b3:=kH au;have zC:=kH (h.below J);have qx:=kH (jv.below J (fun g hg=>(jv.lt g hg).2));have BH:=kH (v.below J (fun g hg=>(v.lt g hg).2));have zD:=kH (aD.below J hB _ _ _ ay);have V:Hid (F.kids.length=H/\out.length+H<=1000000/\B<=w.heap.size/\B<=E.cb/\B<=E.base/\E.base<=w.heap.size/\E.cb<w.heap.size):=kH ⟨aE,hN,hB,YK,aq,O,EO⟩;have uB:Hid ((Value.slice V1 H d1).ownBlock≠some E.cb/\(Value.slice V2 T d2).ownBlock≠some E.cb):=kH ⟨ao,n⟩;have bh:H<=1000000:=by omega
 have c4:=gN.cell 4;have lc:=gN.lt;clear J gN au h jv v ay aE ba hN hB YK aq O EO ao n bd bj l k;go_in
 go_wp2_with (rw[N])
 clear N c4 lc;go_loopg [15] H (fun gk bp wr=> ∃i:Nat,i+gk=H/\bp= .int .i64 (i:Int)/\PC E (out++iH F.kids S L i) nx rs wr/\CX E.base E.cb W2 wr)
 case atStart=>exact⟨0,by omega,rfl,by simpa [iH] using zC.out,CX.refl _ _ _⟩
 obtain⟨i,hi,rfl,hP,X⟩:=hrel;have HI:=kH hi;have HP:=kH hP;have HX:=kH X;have hT:=X.blk b4.out (by decide) (by have:=V.out;omega);have c:=X.blk b3.out (by decide) (by have:=V.out;omega);have c4:=hT.cell 4;have lc:=hT.lt;have s4:=c.cell 4;have ls:=c.lt;have bx:i<=H:=by omega
 by_cases bb:i<H
 ·have A:Below B W2 wr:=X.low (by have:=V.out;have:=M.out.size;omega) V.out.2.2.2.1 V.out.2.2.2.2.1
  obtain⟨z,hz⟩:∃z,F.kids[i]? =some z:=⟨_,ace (by rw[V.out.1];exact bb)⟩
  obtain⟨vals,⟨b,U,hA,P,C⟩,Je⟩:=zD.out.get i z hz;rw[Nat.zero_add]at C;obtain⟨r,q,iY,-⟩:=Je.five;subst hA;subst iY;obtain⟨kz,xz,y,x,zn,ad,an,xI,zZ,sV,-⟩:=aW z r q;rw[ad,an,xI,zZ,sV]at C;have t0:wr.cell? ⟨b,U+i*5,none⟩=some (.int .i64 kz):=(A.cell (p:=⟨b,_,none⟩) P).trans (C 0 _ rfl);have bs:wr.cell? ⟨b,U+i*5+1,none⟩=some (.string xz):=(A.cell (p:=⟨b,_,none⟩) P).trans (C 1 _ rfl);have bt:wr.cell? ⟨b,U+i*5+2,none⟩=some (.int .i64 y):=(A.cell (p:=⟨b,_,none⟩) P).trans (C 2 _ rfl);have t3:wr.cell? ⟨b,U+i*5+3,none⟩=some (.int .i64 x):=(A.cell (p:=⟨b,_,none⟩) P).trans (C 3 _ rfl);have t4:wr.cell? ⟨b,U+i*5+4,none⟩=some (.slice r zn q):=(A.cell (p:=⟨b,_,none⟩) P).trans (C 4 _ rfl);have b8:b<wr.heap.size:=by have:=V.out;have:=M.out.size;have:=X.size;omega
  have bc:(i:Int)<(H:Int):=by omega
  have NL:IntKind.i64.wrap ((i:Int)+1)=(i:Int)+1:=IntWalk.i64_in _ (by omega);obtain⟨D, Q⟩:=ag wr.heap.size;obtain⟨I, tF⟩:=ag (wr.alloc (.cells #[.int .i64 kz,.string xz,.int .i64 y,.int .i64 x,.slice r zn q] 24));have lI:Below wr.heap.size wr I:=by rw[<- tF];exact ai _ _
  have D5:ah I D 24 #[.int .i64 kz,.string xz,.int .i64 y,.int .i64 x,.slice r zn q]:=by rw[<- tF,<- Q];exact ah.new _ _ _
  have u:=hT.below lI hT.lt;have xM:=c.below lI c.lt;have Uz:=kH (hP.below lI);have Ae:=kH (X.trans (CX.of_below lI));have b6:=u.cell 4;have br:=xM.cell 4;have bo:=u.lt;have bn:=xM.lt;obtain⟨⟨p0,p1,p2,p3,p4⟩,-⟩:=D5.five;have bk:=D5.lt;have VQ:=Ae.out.own qx.out (by decide) uB.out.1;have G:=Ae.out.own BH.out (by decide) uB.out.2;have j:=kH VQ;have Y:=kH G;have Af:=kH D5;have a7:Hid (wr.heap.size=D):=kH Q;have HZ:Hid (F.kids[i]? =some z/\z.at_=y/\z.end_=x):=kH ⟨hz,xI,zZ⟩;by_cases m:i<T
  ·have O5:(i:Int)<(T:Int):=by omega
   have a6:decide (i<T)=true:=decide_eq_true m;obtain⟨a1,aa⟩:∃a,S[i]? =some a:=⟨_,ace (by have:=j.out.1;rw[Nat.mul_one]at this;unfold bL at this;rw[List.length_map]at this;omega)⟩
   obtain⟨a2,ab⟩:∃a,L[i]? =some a:=⟨_,ace (by have:=Y.out.1;rw[Nat.mul_one]at this;unfold bL at this;rw[List.length_map]at this;omega)⟩
   obtain⟨g1,o1,q1,b0,-,-,-,bu,aw⟩:=j.out.form (by omega);obtain⟨g2,o2,q2,b1,-,-,-,bw,ax⟩:=Y.out.form (by omega);simp only[Value.slice.injEq,true_and]at b0 b1;obtain⟨rfl,rfl⟩:=b0;obtain⟨rfl,rfl⟩:=b1;have af:I.cell? ⟨g1,o1+i,none⟩=some (.int .i64 a1):=aw i _ (by unfold bL;rw[List.getElem?_map,aa];rfl);have al:I.cell? ⟨g2,o2+i,none⟩=some (.int .i64 a2):=ax i _ (by unfold bL;rw[List.getElem?_map,ab];rfl)
   have d:Hid (iH F.kids S L (i+1)=iH F.kids S L i++[⟨1,a1,a2,0,0,⟨#[]⟩,y,x⟩]):=kH (by
    rw[xq];unfold Fb;rw[hz,aa,ab];simp only
    rw[xI,zZ])
   have R:=Cq E (out++iH F.kids S L i) nx rs I.drew (Uz.out.below ((Below.refl _ _).drew)) (by have:=qY F.kids S L i;have:=V.out.2.1;rw[acm];omega) (by show E.base<=I.heap.size;have:=V.out;have:=M.out.size;have:=Ae.out.size;omega) a1 a2 kz xz y x r zn q;have f:=kH R;have a8:I.drew.cell? ⟨g1,o1+i,none⟩=some (.int .i64 a1)/\I.drew.cell? ⟨g2,o2+i,none⟩=some (.int .i64 a2)/\I.drew.cell? ⟨D,0,none⟩=some (.int .i64 kz)/\I.drew.cell? ⟨D,1,none⟩=some (.string xz)/\I.drew.cell? ⟨D,2,none⟩=some (.int .i64 y)/\I.drew.cell? ⟨D,3,none⟩=some (.int .i64 x)/\I.drew.cell? ⟨D,4,none⟩=some (.slice r zn q):=⟨af,al,p0,p1,p2,p3,p4⟩
   clear hi hP X hT c A hz C Je ad an xI zZ sV lI D5 u xM VQ G aa ab aw ax R;go_wp2_with (first|rw[tF]|rw[Q])
   refine bF (fun W=>W.cell? ⟨g1,o1+i,none⟩=some (.int .i64 a1)/\W.cell? ⟨g2,o2+i,none⟩=some (.int .i64 a2)/\W.cell? ⟨D,0,none⟩=some (.int .i64 kz)/\W.cell? ⟨D,1,none⟩=some (.string xz)/\W.cell? ⟨D,2,none⟩=some (.int .i64 y)/\W.cell? ⟨D,3,none⟩=some (.int .i64 x)/\W.cell? ⟨D,4,none⟩=some (.slice r zn q)) [] [true,true,true,true,true,true,true,true,true,true,false] (by kernel_rfl) (by kernel_rfl) rfl (by kernel_rfl) ?_;iterate 10((first|(refine dU (by rfl) a8 ?_)|(refine bC (by rfl) a8 (by intro w' b7;obtain⟨bG,bI,bM,bN,bP,bT,bX⟩:=b7;go_simp;rfl) ?_));simp only[Act.put,sA,sZ,sC])
   refine dG (by rfl) (by go_simp) (f.out.mono ?_);rintro e9 t ⟨rfl,ar,Z⟩;have b2:Hid (PC E (out++iH F.kids S L (i+1)) nx rs t):=kH (by rw[d.out,<- List.append_assoc];exact ar);have b5:Hid (CX E.base E.cb W2 t):=kH ((Ae.out.trans (CX.of_below ((Below.refl _ _).drew))).trans Z);have K:D≠E.cb:=by have:=V.out;have:=M.out.size;have:=HX.out.size;have:=a7.out;omega
   have av:t.cell? ⟨g1,o1+i,none⟩=some (.int .i64 a1)/\t.cell? ⟨g2,o2+i,none⟩=some (.int .i64 a2)/\t.cell? ⟨D,0,none⟩=some (.int .i64 kz)/\t.cell? ⟨D,1,none⟩=some (.string xz)/\t.cell? ⟨D,2,none⟩=some (.int .i64 y)/\t.cell? ⟨D,3,none⟩=some (.int .i64 x)/\t.cell? ⟨D,4,none⟩=some (.slice r zn q):=⟨(Z.Ev j.out.drew (by decide) uB.out.1 _).trans af,(Z.Ev Y.out.drew (by decide) uB.out.2 _).trans al,(Z.cell Af.out.drew (by decide) K _).trans p0,(Z.cell Af.out.drew (by decide) K _).trans p1,(Z.cell Af.out.drew (by decide) K _).trans p2,(Z.cell Af.out.drew (by decide) K _).trans p3,(Z.cell Af.out.drew (by decide) K _).trans p4⟩
   refine⟨_,rfl,fun _=>av,?_⟩;simp only[Act.put,sA,sZ,sC];refine fT ?_;clear ar Z a8 av K af al p0 p1 p2 p3 p4 bk b6 br bo bn tF Q t0 bs bt t3 t4 b8 c4 lc s4 ls;go_wp2_with fail
   go_roundg (gk - 1)
   case measure=>have:=HI.out;omega
   exact⟨i+1,by have:=HI.out;omega,by simp,b2.out,b5.out⟩
  have O5:¬((i:Int)<(T:Int)):=by omega
  have a6:decide (i<T)=false:=decide_eq_false m
  have d:Hid (iH F.kids S L (i+1)=iH F.kids S L i):=kH (by
   rw[xq];have:L[i]? =none:=List.getElem?_eq_none (by have:=Y.out.1;rw[Nat.mul_one]at this;unfold bL at this;rw[List.length_map]at this;omega);unfold Fb;rw[this];split
   ·rename_i h;cases h
   simp)
  clear hi hP X hT c A hz C Je ad an xI zZ sV lI D5 u xM VQ G;go_wp2_with (first|rw[tF]|rw[Q])
  go_roundg (gk - 1)
  case measure=>have:=HI.out;omega
  exact⟨i+1,by have:=HI.out;omega,by simp,by rw[d.out];exact Uz.out,Ae.out⟩
 have b9:i=H:=by omega
 subst b9;have HE:Hid (CX E.base E.cb w wr):=kH ((CX.of_below M.out).trans X);clear hi hP X hT c;go_wp2_with fail
 go_end0
 exact⟨rfl,HP.out,HE.out⟩
end Go.Proofs.YtoepemlnlpamlaaGreat
