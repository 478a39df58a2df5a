/- Catalogs. -/
import Derived.Test.YtnkjliahpeebjaaGreatDoorCards
import Derived.Test.YtnkjliahpeebjaaGreatDoorTie
import Derived.Deep.DeepHandedRow
import Derived.Stop.LaidErr
import Derived.Lay
import Derived.Test.YtnkjliahpeebjaaGreatDoorChA
import Derived.Test.YtnkjliahpeebjaaGreatDoorSrt
set_option maxRecDepth 100000
open Option renaming some->Z9
open Go.Proofs.Tryz renaming prog->Z6,underlying3->Zv,underlying9->XR,underlying4->Wj
open _root_ renaming List->Z5,Option->Zy
open Go renaming Value->Z3,TypeId->YZ,MemPlace->Wk
open Bool renaming true->ZZ
open List renaming head_eq_of_cons_eq->ZI
open Go.DataW renaming trod_int->YY,trod_string->WM,trod->Wy
namespace Go.Proofs.YtnkjliahpeebjaaGreatDoor
variable{H:Type}{P:Program}{W W':World}{base d:Nat}{v:Z3}{t e:YZ}{a cs:Z5 Z3}{b:Array Field}
section
open Go.ChangeShapes Go.WideShapes Go.ChangeAt Go.RowKit
theorem ownk:ownKnob Tryz.prog.godebug=none:=by kernel_rfl
theorem ET:laidOutB Z6=ZZ:=by kernel_rfl
theorem rk{H:Type}{enc:YZ × Z3->H}{W W':World}(j:Below W.heap.size W W')(S:Nat->Bool) :
 ∀ (T:Z5 YZ) (a:Z5 Z3) (D:Z5 (DataW H)) (s:Z5 Wk),(∀ t∈T,Tryz.prog.readableRec t=ZZ/\t<Tryz.prog.types.size)->DataW.TrodAll enc Z6 W 0 (fun _=>ZZ) ZZ T a D s ->
  (∀ p∈s,p.block<W.heap.size)->(∀ p∈s,S p.block=ZZ)->DataW.TrodAll enc Z6 W' 0 S ZZ T a D s
 | [],a,D,s,_,h,_,_=>by
   obtain⟨rfl,rfl,rfl⟩:=trodAll_nil h;exact trodAll_mk0
 | t::T,a,D,s,l,h,f,g=>by
   obtain⟨v,V,d,i,p,q,rfl,rfl,rfl,m,n⟩:=trodAll_cons h;have k:=l t (by simp)
   exact trodAll_cons_mk (WideElems.Trod_stays ET k.1 k.2 m (fun x c=>j.same (f x (by simp [c]))) (fun x c=>g x (by simp [c])))
    (rk j S T V i q (fun u o=>l u (by simp [o])) n (fun x c=>f x (by simp [c])) (fun x c=>g x (by simp [c])))
theorem yT{enc:YZ × Z3->H}(f:Below W.heap.size W W'){T:Z5 YZ}{D:Z5 (DataW H)}{s:Z5 Wk}(i:(T.all fun t=>Tryz.prog.readableRec t&&decide (t<Tryz.prog.types.size))=ZZ)(h:DataW.TrodAll enc Z6 W 0 (fun _=>ZZ) ZZ T a D s)(c:∀ p∈s,p.block<W.heap.size):DataW.TrodAll enc Z6 W' 0 (fun b=>decide (b<W.heap.size)) ZZ T a D s :=
 rk f _ T a D s (fun t m=>by have:=List.all_eq_true.1 i t m;simpa using this) h c (fun p g=>by simpa using c p g)
theorem yH{enc:YZ × Z3->H}{C:Checked}{o:Os}{f:FuncId}{F:Func}{s:OpenSpec}{g:Z5 PathCond}{c:Bool}{l:Z5 (String × DataW Unit)}(modest:Bool)(A:Array Z3)(k:((World.laidAll C.prog o l).forCall (fun _ _=>0) ⟨#[],A,[]⟩).Shaped C.prog)(h:Input.okWideB C.prog ((World.laidAll C.prog o l).forCall (fun _ _=>0) ⟨#[],A,[]⟩) f ⟨#[],A,[]⟩=ZZ)(j:s.preRow enc C.prog F g c l ((World.laidAll C.prog o l).forCall (fun _ _=>0) ⟨#[],A,[]⟩).memory A) :
 ∃ (w:World) (T:Tape) (i:Input),w.os=o/\(w.forCall T i).Shaped C.prog/\i.vars=[]/\Input.okWide C.prog (w.forCall T i) .any w.heap.size f i/\
  s.preRow enc C.prog F g c l (w.forCall T i).memory i.args/\({ modest:=modest }:Assume).holds C.prog (lone (Frame.enter C.prog f i.args .normal) [] (w.forCall T i)) :=
 ⟨World.laidAll C.prog o l,fun _ _=>0,⟨#[],A,[]⟩,World.laidAll_os _ _ _,k,(Input.okWide_of_okWideB (base:=0) h).1,(Input.okWide_of_okWideB h).2,j,by
  simp only[Assume.holds]
  exact⟨by simp,by simp,fun _=>Modest.zero,by simp,by simp⟩⟩
end
theorem Cn:(Tryz.prog.globals[3]?).map (·.type)=Z9 367:=by kernel_rfl
theorem AH:Tryz.prog.cellsOf 367=20:=by kernel_rfl
theorem AI:Tryz.prog.cellsOf 243=1:=by kernel_rfl
theorem Ik{rest:Z5 (String × DataW Unit)}(h:laidMet Z6 (("math/bits.deBruijn32tab", Rows.laid_math_bits_deBruijn32tab) :: ("math/bits.deBruijn64tab", Rows.laid_math_bits_deBruijn64tab) :: ("internal/strconv.uint64pow10", Rows.laid_internal_strconv_uint64pow10) :: rest) W) : Tab W :=
 Lib.tabIs_of_head (rest:=rest) kJ Cn Tryz.underlying367 Tryz.underlying243 AI AH (laidMet.tail (laidMet.tail h))
theorem Gi(h:W.ShapedOpen Z6):MaxL W:=Tryz.laysM144.s1_3 W h
section
open Go.ChangeShapes Go.WideShapes Go.RowKit
end
section
open Go.ChangeShapes Go.WideShapes Go.RowKit
theorem zu{w:World}{r:Reach}(c:P.underlying t=Z9 (.struct b))(h:Value.okWide P w r base t v):∃ cs,v=.agg cs/\cs.size=P.cellsOf t/\Row.okWide P w r base t cs:=by
 simpa only [Value.okWide,c] using h
theorem yx{enc:YZ × Z3->H}{x:DataW H × Z5 Wk}(h:Wy enc Z6 W 0 (fun _=>ZZ) ZZ d 27 [v]=Z9 x) :
 ∃ (a:Zy Addr) (n c:Nat),v=.slice a n c/\(n<=1000->∃ l:Z5 Gr,l.length=n/\GS W v l):=by
 rcases Go.Deep.open_slice Tryz.underlying27 h with ⟨u,-⟩|⟨a,L,C,m,f,D,Pl,u,-,hl,-,X,-,U⟩
 .obtain rfl:v=.slice none 0 0:=by simpa using u
  exact⟨none,0,0,rfl,fun _=>⟨[],rfl,GS.nil W⟩⟩
 .obtain rfl:v=.slice (Z9 a) L C:=by simpa using u
  refine⟨Z9 a,L,C,rfl,fun hn=>?_⟩
  have O:Tryz.prog.cellsOf 103=3:=by kernel_rfl
  have E:∀ i,i<L->∃ g:Gr,W.cell? (a.add (i*3))=Z9 (.string g.1)/\W.cell? ((a.add (i*3)).add 1)=Z9 (.bool g.2.1)/\W.cell? ((a.add (i*3)).add 2)=Z9 (.int .i64 g.2.2):=fun i p=>by
   obtain⟨cs,A,Y⟩:=U i (by rw[X];split <;> omega);rw[O] at A;obtain⟨_,w,j⟩:=World.cells?_some A;obtain⟨y0,y1,y2,n',-,-,Q,R,S⟩:=Go.Deep.trod_struct3 Tryz.underlying103 Y
   match cs,w with
   | [q,F,I],_ =>
     obtain⟨b,J,-⟩:=WM XR Q;obtain⟨g,K,-⟩:=DataW.trod_bool Wj R;obtain⟨l,N,-⟩:=YY Zv S;have k0:q=.string b:=ZI J;have k1:F=.bool g:=ZI K;have Z:I=.int .i64 l:=ZI N;subst k0 k1 Z;exact⟨(b,g,l),by simpa [Addr.add] using j 0 (by omega),j 1 (by omega),j 2 (by omega)⟩
  let G:Nat->Gr:=fun i=>if h:i<L then Classical.choose (E i h) else (⟨#[]⟩,false,0)
  have z:∀ i,i<L->W.cell? (a.add (i*3))=Z9 (.string (G i).1)/\W.cell? ((a.add (i*3)).add 1)=Z9 (.bool (G i).2.1)/\W.cell? ((a.add (i*3)).add 2)=Z9 (.int .i64 (G i).2.2):=fun i p=>by
   have:=Classical.choose_spec (E i p);simp only[G,dif_pos p];exact this
  refine⟨(List.range L).map G,by simp,Z9 a,C,by simp,by simp;omega,fun T=>?_⟩
  have r:0<L:=by simpa using T
  have q:=(z 0 r).1
  have B:a.spot=none:=by
   have:=World.cell?_spot q;simpa [Addr.add] using this
  obtain⟨b,o,s⟩:=a;simp only at B
  subst B;refine⟨b,o,rfl,?_,fun k V=>?_⟩
  .have:=World.block_lt_of_cell? W _ q;simpa [Addr.add] using this
  .have y:k<L:=by simpa using V
   have:=z k y;rw[Addr.add_mid,Addr.add_mid,Addr.add_mid] at this;simpa using this
end
section
open Go.ChangeShapes Go.WideShapes Go.RowKit
theorem nk{enc:YZ × Z3->H}{s:Nat->Bool}{c:Bool}{x:DataW H × Z5 Wk}(l:P.underlying t=Z9 (.struct b))(h:Wy enc P W base s c d t cs=Z9 x) :
 ∃ n,∀ (i:Nat) (f:Field),b[i]?=Z9 f->∃ y,Wy enc P W base s c n f.type ((cs.drop f.offset).take (P.cellsOf f.type))=Z9 y:=by
 obtain⟨X,n,-,-,-,m,j⟩:=DataW.trod_struct l h;refine⟨n,fun i f g=>?_⟩
 have k:i<b.size:=by
  rcases Nat.lt_or_ge i b.size with h|h
  .exact h
  .rw[Array.getElem?_eq_none h] at g;cases g
 exact⟨X[i]'(by omega),(j i f g).trans (List.getElem?_eq_getElem _)⟩
theorem ru{enc:YZ × Z3->H}{x:DataW H × Z5 Wk}(j:P.underlying t=Z9 (.slice e))(h:Wy enc P W 0 (fun _=>ZZ) ZZ d t [v]=Z9 x) :
 ∃ (a:Zy Addr) (n c:Nat),v=.slice a n c/\n<=9223372036854775807:=by
 rcases Go.Deep.open_slice j h with ⟨g,-⟩|⟨a,l,C,m,f,D,k,g,-,o,i,-⟩
 .exact⟨none,0,0,ZI g,by omega⟩
 .exact⟨Z9 a,l,C,ZI g,by simp only[maxLen] at i;omega⟩
theorem BJ{enc:YZ × Z3->H}{x:DataW H × Z5 Wk}(h:Wy enc Z6 W 0 (fun _=>ZZ) ZZ d 27 [v]=Z9 x) :
 ∃ (a:Zy Addr) (n c:Nat),v=.slice a n c/\n<=9223372036854775807/\(n<=1000->∃ l:Z5 Gr,l.length=n/\GS W v l):=by
 obtain⟨a,n,c,rfl,j⟩:=ru Tryz.underlying27 h;obtain⟨A,N,C,e,i⟩:=yx h;injection e with E f g
 subst E f g;exact⟨a,n,c,rfl,j,i⟩
theorem uA{enc:YZ × Z3->H}{x:DataW H × Z5 Wk}(hl:cs.length=33)(h:Wy enc Z6 W 0 (fun _=>ZZ) ZZ d 29 cs=Z9 x) :
 ∃ (e:En) (K:Zy Addr) (c O:Nat) (L:Zy Addr) (N Q:Nat),cs=(e.vals (.slice K c O) (.slice L N Q)).toList/\c<=9223372036854775807/\N<=9223372036854775807/\(N<=1000->∃ l:Z5 Gr,l.length=N/\GS W (.slice L N Q) l)/\∃ (fl:Nat) (z:DataW H × Z5 Wk),Wy enc Z6 W 0 (fun _=>ZZ) ZZ fl 26 [.slice K c O]=Z9 z:=by
 rcases cs with _|⟨x0,_|⟨x1,_|⟨x2,_|⟨x3,_|⟨x4,_|⟨x5,_|⟨x6,_|⟨x7,_|⟨x8,_|⟨x9,_|⟨cu,_|⟨cz,_|⟨d0,_|⟨d1,_|⟨d2,_|⟨d3,_|⟨d4,_|⟨d5,_|⟨d6,_|⟨d7,_|⟨d8,_|⟨d9,_|⟨dl,_|⟨dq,_|⟨ds,_|⟨dt,_|⟨dw,_|⟨ea,_|⟨ei,_|⟨el,_|⟨em,_|⟨en,_|⟨er,_|⟨es,l⟩⟩⟩⟩⟩⟩⟩⟩⟩⟩⟩⟩⟩⟩⟩⟩⟩⟩⟩⟩⟩⟩⟩⟩⟩⟩⟩⟩⟩⟩⟩⟩⟩⟩ <;> simp at hl
 obtain⟨n,f⟩:=nk Tryz.underlying29 h;obtain⟨_,t0⟩:=f 0 _ rfl;obtain⟨y0,e0,-⟩:=YY Zv t0;have k0:x0=.int .i64 y0:=ZI e0;obtain⟨_,t1⟩:=f 1 _ rfl;obtain⟨y1,e1,-⟩:=WM XR t1;have k1:x1=.string y1:=ZI e1;obtain⟨_,hd⟩:=f 2 _ rfl;obtain⟨m,g⟩:=nk Tryz.underlying25 hd;obtain⟨_,t2⟩:=g 0 _ rfl;obtain⟨y2,e2,-⟩:=YY Zv t2;have k2:x2=.int .i64 y2:=ZI e2;obtain⟨_,t3⟩:=g 1 _ rfl;obtain⟨y3,e3,-⟩:=YY Zv t3;have k3:x3=.int .i64 y3:=ZI e3;obtain⟨_,t4⟩:=g 2 _ rfl;obtain⟨y4,e4,-⟩:=YY Zv t4;have k4:x4=.int .i64 y4:=ZI e4;obtain⟨_,t5⟩:=g 3 _ rfl;obtain⟨y5,e5,-⟩:=YY Zv t5;have k5:x5=.int .i64 y5:=ZI e5;obtain⟨_,t6⟩:=g 4 _ rfl;obtain⟨y6,e6,-⟩:=YY Zv t6;have k6:x6=.int .i64 y6:=ZI e6;obtain⟨_,t7⟩:=g 5 _ rfl;obtain⟨y7,e7,-⟩:=YY Zv t7;have k7:x7=.int .i64 y7:=ZI e7;obtain⟨_,t8⟩:=g 6 _ rfl;obtain⟨y8,e8,-⟩:=YY Zv t8;have k8:x8=.int .i64 y8:=ZI e8;obtain⟨_,t9⟩:=g 7 _ rfl;obtain⟨y9,e9,-⟩:=YY Zv t9;have k9:x9=.int .i64 y9:=ZI e9;obtain⟨_,br⟩:=g 8 _ rfl;obtain⟨y,R,-⟩:=YY Zv br;have ao:cu=.int .i64 y:=ZI R;obtain⟨_,bs⟩:=g 9 _ rfl;obtain⟨Y,S,-⟩:=YY Zv bs;have ar:cz=.int .i64 Y:=ZI S;obtain⟨_,c0⟩:=g 10 _ rfl;obtain⟨i,U,-⟩:=YY Zv c0;have av:d0=.int .i64 i:=ZI U;obtain⟨_,c3⟩:=g 11 _ rfl;obtain⟨j,V,-⟩:=YY Zv c3;have b0:d1=.int .i64 j:=ZI V;obtain⟨_,c4⟩:=g 12 _ rfl;obtain⟨k,X,-⟩:=YY Zv c4;have b1:d2=.int .i64 k:=ZI X;obtain⟨_,c5⟩:=g 13 _ rfl;obtain⟨o,Z,-⟩:=YY Zv c5;have b2:d3=.int .i64 o:=ZI Z;obtain⟨_,c6⟩:=g 14 _ rfl;obtain⟨p,a0,-⟩:=DataW.trod_bool Wj c6;have b3:d4=.bool p:=ZI a0;obtain⟨_,c7⟩:=g 15 _ rfl;obtain⟨q,a3,-⟩:=YY Zv c7;have b4:d5=.int .i64 q:=ZI a3;obtain⟨_,c8⟩:=g 16 _ rfl;obtain⟨r,a4,-⟩:=WM XR c8;have b5:d6=.string r:=ZI a4;obtain⟨_,c9⟩:=g 17 _ rfl;obtain⟨s,a5,-⟩:=WM XR c9;have b6:d7=.string s:=ZI a5;obtain⟨_,ca⟩:=g 18 _ rfl;obtain⟨u,a6,-⟩:=YY Zv ca;have b7:d8=.int .i64 u:=ZI a6;obtain⟨_,cb⟩:=g 19 _ rfl;obtain⟨w,a7,-⟩:=YY Zv cb;have b8:d9=.int .i64 w:=ZI a7;obtain⟨_,cc⟩:=g 20 _ rfl;obtain⟨A,a8,-⟩:=DataW.trod_bool Wj cc;have b9:dl=.bool A:=ZI a8;obtain⟨_,T⟩:=f 3 _ rfl;obtain⟨K,c,O,q1,l1⟩:=ru (v:=dq) Tryz.underlying26 T;obtain⟨_,cd⟩:=f 4 _ rfl;obtain⟨B,a9,-⟩:=YY Zv cd;have ba:ds=.int .i64 B:=ZI a9;obtain⟨_,ce⟩:=f 5 _ rfl;obtain⟨C,aa,-⟩:=YY Zv ce;have bb:dt=.int .i64 C:=ZI aa;obtain⟨_,cg⟩:=f 6 _ rfl;obtain⟨D,ab,-⟩:=YY Zv cg;have bc:dw=.int .i64 D:=ZI ab;obtain⟨_,ch⟩:=f 7 _ rfl;obtain⟨E,ac,-⟩:=DataW.trod_bool Wj ch;have bd:ea=.bool E:=ZI ac;obtain⟨_,ck⟩:=f 8 _ rfl;obtain⟨F,ad,-⟩:=WM XR ck;have be:ei=.string F:=ZI ad;obtain⟨_,cn⟩:=f 9 _ rfl;obtain⟨G,af,-⟩:=WM XR cn;have bi:el=.string G:=ZI af;obtain⟨_,cp⟩:=f 10 _ rfl;obtain⟨I,ag,-⟩:=YY Zv cp;have bk:em=.int .i64 I:=ZI ag;obtain⟨_,cr⟩:=f 11 _ rfl;obtain⟨J,al,-⟩:=YY Zv cr;have bp:en=.int .i64 J:=ZI al;obtain⟨_,ct⟩:=f 12 _ rfl;obtain⟨L,N,Q,q2,l2,g2⟩:=BJ (v:=er) ct;subst q1 q2 k0 k1 k2 k3 k4 k5 k6 k7 k8 k9 ao ar av b0 b1 b2 b3 b4 b5 b6 b7 b8 b9 ba bb bc bd be bi bk bp;exact⟨⟨y0,y1,y2,y3,y4,y5,y6,y7,y8,y9,y,Y,i,j,k,o,p,q,r,s,u,w,A,B,C,D,E,F,G,I,J⟩,K,c,O,L,N,Q,by unfold En.vals;rfl,l1,l2,g2,_,_,T⟩
end
section
open Go.ChangeShapes Go.WideShapes Go.RowKit
end
end Go.Proofs.YtnkjliahpeebjaaGreatDoor
