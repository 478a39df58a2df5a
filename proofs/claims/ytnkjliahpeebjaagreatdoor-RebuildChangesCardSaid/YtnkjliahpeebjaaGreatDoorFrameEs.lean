/- Catalogs. -/
import Derived.Test.YtnkjliahpeebjaaGreatDoorCards
import Derived.Test.YtnkjliahpeebjaaGreatDoorTie
import Derived.Deep.DeepHandedRow
import Derived.Stop.LaidErr
import Derived.Lay
import Derived.Test.YtnkjliahpeebjaaGreatDoorChA
import Derived.Test.YtnkjliahpeebjaaGreatDoorSrt
set_option maxRecDepth 100000
open Option renaming some->Z9
open Go.Proofs.Tryz renaming prog->Z8,underlying3->Zh,underlying9->WO,underlying4->Vo
open Go renaming Value->Z2,TypeId->Y2,MemPlace->Vw
open _root_ renaming List->Z1,Option->Zp
open Bool renaming true->ZX
open List renaming head_eq_of_cons_eq->Zx
open Go.DataW renaming trod_int->YI,trod_string->Wp,trod->VT
namespace Go.Proofs.YtnkjliahpeebjaaGreatDoor
variable{H:Type}{P:Program}{W c:World}{base d:Nat}{v:Z2}{t e:Y2}{a cs:Z1 Z2}{b:Array Field}
section
open Go.ChangeShapes Go.WideShapes Go.ChangeAt Go.RowKit
theorem ownk:ownKnob Tryz.prog.godebug=none:=by kernel_rfl
theorem ET:laidOutB Z8=ZX:=by kernel_rfl
theorem rk{H:Type}{enc:Y2 × Z2->H}{W c:World}(l:Below W.heap.size W c)(S:Nat->Bool) :
 ∀ (T:Z1 Y2) (a:Z1 Z2) (D:Z1 (DataW H)) (s:Z1 Vw),(∀ t∈T,Tryz.prog.readableRec t=ZX/\t<Tryz.prog.types.size)->DataW.TrodAll enc Z8 W 0 (fun _=>ZX) ZX T a D s ->
  (∀ p∈s,p.block<W.heap.size)->(∀ p∈s,S p.block=ZX)->DataW.TrodAll enc Z8 c 0 S ZX T a D s
 | [],a,D,s,_,h,_,_=>by
   obtain⟨rfl,rfl,rfl⟩:=trodAll_nil h;exact trodAll_mk0
 | t::T,a,D,s,m,h,g,i=>by
   obtain⟨v,V,d,j,p,q,rfl,rfl,rfl,n,o⟩:=trodAll_cons h;have k:=m t (by simp)
   exact trodAll_cons_mk (WideElems.Trod_stays ET k.1 k.2 n (fun x f=>l.same (g x (by simp [f]))) (fun x f=>i x (by simp [f])))
    (rk l S T V j q (fun u r=>m u (by simp [r])) o (fun x f=>g x (by simp [f])) (fun x f=>i x (by simp [f])))
theorem yT{enc:Y2 × Z2->H}(g:Below W.heap.size W c){T:Z1 Y2}{D:Z1 (DataW H)}{s:Z1 Vw}(j:(T.all fun t=>Tryz.prog.readableRec t&&decide (t<Tryz.prog.types.size))=ZX)(h:DataW.TrodAll enc Z8 W 0 (fun _=>ZX) ZX T a D s)(f:∀ p∈s,p.block<W.heap.size):DataW.TrodAll enc Z8 c 0 (fun b=>decide (b<W.heap.size)) ZX T a D s :=
 rk g _ T a D s (fun t m=>by have:=List.all_eq_true.1 j t m;simpa using this) h f (fun p i=>by simpa using f p i)
theorem yH{enc:Y2 × Z2->H}{C:Checked}{o:Os}{f:FuncId}{F:Func}{s:OpenSpec}{h:Z1 PathCond}{g:Bool}{l:Z1 (String × DataW Unit)}(modest:Bool)(A:Array Z2)(m:((World.laidAll C.prog o l).forCall (fun _ _=>0) ⟨#[],A,[]⟩).Shaped C.prog)(k:Input.okWideB C.prog ((World.laidAll C.prog o l).forCall (fun _ _=>0) ⟨#[],A,[]⟩) f ⟨#[],A,[]⟩=ZX)(j:s.preRow enc C.prog F h g l ((World.laidAll C.prog o l).forCall (fun _ _=>0) ⟨#[],A,[]⟩).memory A) :
 ∃ (w:World) (T:Tape) (i:Input),w.os=o/\(w.forCall T i).Shaped C.prog/\i.vars=[]/\Input.okWide C.prog (w.forCall T i) .any w.heap.size f i/\
  s.preRow enc C.prog F h g l (w.forCall T i).memory i.args/\({ modest:=modest }:Assume).holds C.prog (lone (Frame.enter C.prog f i.args .normal) [] (w.forCall T i)) :=
 ⟨World.laidAll C.prog o l,fun _ _=>0,⟨#[],A,[]⟩,World.laidAll_os _ _ _,m,(Input.okWide_of_okWideB (base:=0) k).1,(Input.okWide_of_okWideB k).2,j,by
  simp only[Assume.holds]
  exact⟨by simp,by simp,fun _=>Modest.zero,by simp,by simp⟩⟩
end
theorem Cn:(Tryz.prog.globals[3]?).map (·.type)=Z9 367:=by kernel_rfl
theorem AH:Tryz.prog.cellsOf 367=20:=by kernel_rfl
theorem AI:Tryz.prog.cellsOf 243=1:=by kernel_rfl
theorem Ik{rest:Z1 (String × DataW Unit)}(h:laidMet Z8 (("math/bits.deBruijn32tab", Rows.laid_math_bits_deBruijn32tab) :: ("math/bits.deBruijn64tab", Rows.laid_math_bits_deBruijn64tab) :: ("internal/strconv.uint64pow10", Rows.laid_internal_strconv_uint64pow10) :: rest) W) : Tab W :=
 Lib.tabIs_of_head (rest:=rest) kJ Cn Tryz.underlying367 Tryz.underlying243 AI AH (laidMet.tail (laidMet.tail h))
theorem Gi(h:W.ShapedOpen Z8):MaxL W:=Tryz.laysM144.s1_3 W h
section
open Go.ChangeShapes Go.WideShapes Go.RowKit
end
section
open Go.ChangeShapes Go.WideShapes Go.RowKit
theorem zu{w:World}{r:Reach}(f:P.underlying t=Z9 (.struct b))(h:Value.okWide P w r base t v):∃ cs,v=.agg cs/\cs.size=P.cellsOf t/\Row.okWide P w r base t cs:=by
 simpa only [Value.okWide,f] using h
theorem yx{enc:Y2 × Z2->H}{x:DataW H × Z1 Vw}(h:VT enc Z8 W 0 (fun _=>ZX) ZX d 27 [v]=Z9 x) :
 ∃ (a:Zp Addr) (n c:Nat),v=.slice a n c/\(n<=1000->∃ l:Z1 Gr,l.length=n/\GS W v l):=by
 rcases Go.Deep.open_slice Tryz.underlying27 h with ⟨u,-⟩|⟨a,L,C,m,f,D,Pl,u,-,hl,-,X,-,U⟩
 .obtain rfl:v=.slice none 0 0:=by simpa using u
  exact⟨none,0,0,rfl,fun _=>⟨[],rfl,GS.nil W⟩⟩
 .obtain rfl:v=.slice (Z9 a) L C:=by simpa using u
  refine⟨Z9 a,L,C,rfl,fun hn=>?_⟩
  have O:Tryz.prog.cellsOf 103=3:=by kernel_rfl
  have E:∀ i,i<L->∃ g:Gr,W.cell? (a.add (i*3))=Z9 (.string g.1)/\W.cell? ((a.add (i*3)).add 1)=Z9 (.bool g.2.1)/\W.cell? ((a.add (i*3)).add 2)=Z9 (.int .i64 g.2.2):=fun i p=>by
   obtain⟨cs,A,Y⟩:=U i (by rw[X];split <;> omega);rw[O] at A;obtain⟨_,w,j⟩:=World.cells?_some A;obtain⟨y0,y1,y2,n',-,-,Q,R,S⟩:=Go.Deep.trod_struct3 Tryz.underlying103 Y
   match cs,w with
   | [q,F,I],_ =>
     obtain⟨b,J,-⟩:=Wp WO Q;obtain⟨g,K,-⟩:=DataW.trod_bool Vo R;obtain⟨l,N,-⟩:=YI Zh S;have k0:q=.string b:=Zx J;have k1:F=.bool g:=Zx K;have Z:I=.int .i64 l:=Zx N;subst k0 k1 Z;exact⟨(b,g,l),by simpa [Addr.add] using j 0 (by omega),j 1 (by omega),j 2 (by omega)⟩
  let G:Nat->Gr:=fun i=>if h:i<L then Classical.choose (E i h) else (⟨#[]⟩,false,0)
  have z:∀ i,i<L->W.cell? (a.add (i*3))=Z9 (.string (G i).1)/\W.cell? ((a.add (i*3)).add 1)=Z9 (.bool (G i).2.1)/\W.cell? ((a.add (i*3)).add 2)=Z9 (.int .i64 (G i).2.2):=fun i p=>by
   have:=Classical.choose_spec (E i p);simp only[G,dif_pos p];exact this
  refine⟨(List.range L).map G,by simp,Z9 a,C,by simp,by simp;omega,fun T=>?_⟩
  have r:0<L:=by simpa using T
  have q:=(z 0 r).1
  have B:a.spot=none:=by
   have:=World.cell?_spot q;simpa [Addr.add] using this
  obtain⟨b,o,s⟩:=a;simp only at B
  subst B;refine⟨b,o,rfl,?_,fun k V=>?_⟩
  .have:=World.block_lt_of_cell? W _ q;simpa [Addr.add] using this
  .have y:k<L:=by simpa using V
   have:=z k y;rw[Addr.add_mid,Addr.add_mid,Addr.add_mid] at this;simpa using this
end
section
open Go.ChangeShapes Go.WideShapes Go.RowKit
theorem nk{enc:Y2 × Z2->H}{s:Nat->Bool}{g:Bool}{x:DataW H × Z1 Vw}(m:P.underlying t=Z9 (.struct b))(h:VT enc P W base s g d t cs=Z9 x) :
 ∃ n,∀ (i:Nat) (f:Field),b[i]?=Z9 f->∃ y,VT enc P W base s g n f.type ((cs.drop f.offset).take (P.cellsOf f.type))=Z9 y:=by
 obtain⟨X,n,-,-,-,o,k⟩:=DataW.trod_struct m h;refine⟨n,fun i f j=>?_⟩
 have l:i<b.size:=by
  rcases Nat.lt_or_ge i b.size with h|h
  .exact h
  .rw[Array.getElem?_eq_none h] at j;cases j
 exact⟨X[i]'(by omega),(k i f j).trans (List.getElem?_eq_getElem _)⟩
theorem ru{enc:Y2 × Z2->H}{x:DataW H × Z1 Vw}(j:P.underlying t=Z9 (.slice e))(h:VT enc P W 0 (fun _=>ZX) ZX d t [v]=Z9 x) :
 ∃ (a:Zp Addr) (n c:Nat),v=.slice a n c/\n<=9223372036854775807:=by
 rcases Go.Deep.open_slice j h with ⟨g,-⟩|⟨a,l,C,m,f,D,k,g,-,o,i,-⟩
 .exact⟨none,0,0,Zx g,by omega⟩
 .exact⟨Z9 a,l,C,Zx g,by simp only[maxLen] at i;omega⟩
theorem BJ{enc:Y2 × Z2->H}{x:DataW H × Z1 Vw}(h:VT enc Z8 W 0 (fun _=>ZX) ZX d 27 [v]=Z9 x) :
 ∃ (a:Zp Addr) (n c:Nat),v=.slice a n c/\n<=9223372036854775807/\(n<=1000->∃ l:Z1 Gr,l.length=n/\GS W v l):=by
 obtain⟨a,n,c,rfl,j⟩:=ru Tryz.underlying27 h;obtain⟨A,N,C,e,i⟩:=yx h;injection e with E f g
 subst E f g;exact⟨a,n,c,rfl,j,i⟩
theorem uA{enc:Y2 × Z2->H}{x:DataW H × Z1 Vw}(hl:cs.length=33)(h:VT enc Z8 W 0 (fun _=>ZX) ZX d 29 cs=Z9 x) :
 ∃ (e:En) (L:Zp Addr) (i Q:Nat) (O:Zp Addr) (N R:Nat),cs=(e.vals (.slice L i Q) (.slice O N R)).toList/\i<=9223372036854775807/\N<=9223372036854775807/\(N<=1000->∃ l:Z1 Gr,l.length=N/\GS W (.slice O N R) l)/\∃ (fl:Nat) (z:DataW H × Z1 Vw),VT enc Z8 W 0 (fun _=>ZX) ZX fl 26 [.slice L i Q]=Z9 z:=by
 rcases cs with _|⟨x0,_|⟨x1,_|⟨x2,_|⟨x3,_|⟨x4,_|⟨x5,_|⟨x6,_|⟨x7,_|⟨x8,_|⟨x9,_|⟨d0,_|⟨d1,_|⟨d2,_|⟨d3,_|⟨d4,_|⟨d5,_|⟨d6,_|⟨d7,_|⟨d8,_|⟨d9,_|⟨dj,_|⟨dl,_|⟨dm,_|⟨dq,_|⟨ds,_|⟨du,_|⟨ee,_|⟨ei,_|⟨el,_|⟨em,_|⟨en,_|⟨ep,_|⟨er,_|⟨es,l⟩⟩⟩⟩⟩⟩⟩⟩⟩⟩⟩⟩⟩⟩⟩⟩⟩⟩⟩⟩⟩⟩⟩⟩⟩⟩⟩⟩⟩⟩⟩⟩⟩⟩ <;> simp at hl
 obtain⟨n,f⟩:=nk Tryz.underlying29 h;obtain⟨_,t0⟩:=f 0 _ rfl;obtain⟨y0,e0,-⟩:=YI Zh t0;have k0:x0=.int .i64 y0:=Zx e0;obtain⟨_,t1⟩:=f 1 _ rfl;obtain⟨y1,e1,-⟩:=Wp WO t1;have k1:x1=.string y1:=Zx e1;obtain⟨_,hd⟩:=f 2 _ rfl;obtain⟨m,g⟩:=nk Tryz.underlying25 hd;obtain⟨_,t2⟩:=g 0 _ rfl;obtain⟨y2,e2,-⟩:=YI Zh t2;have k2:x2=.int .i64 y2:=Zx e2;obtain⟨_,t3⟩:=g 1 _ rfl;obtain⟨y3,e3,-⟩:=YI Zh t3;have k3:x3=.int .i64 y3:=Zx e3;obtain⟨_,t4⟩:=g 2 _ rfl;obtain⟨y4,e4,-⟩:=YI Zh t4;have k4:x4=.int .i64 y4:=Zx e4;obtain⟨_,t5⟩:=g 3 _ rfl;obtain⟨y5,e5,-⟩:=YI Zh t5;have k5:x5=.int .i64 y5:=Zx e5;obtain⟨_,t6⟩:=g 4 _ rfl;obtain⟨y6,e6,-⟩:=YI Zh t6;have k6:x6=.int .i64 y6:=Zx e6;obtain⟨_,t7⟩:=g 5 _ rfl;obtain⟨y7,e7,-⟩:=YI Zh t7;have k7:x7=.int .i64 y7:=Zx e7;obtain⟨_,t8⟩:=g 6 _ rfl;obtain⟨y8,e8,-⟩:=YI Zh t8;have k8:x8=.int .i64 y8:=Zx e8;obtain⟨_,t9⟩:=g 7 _ rfl;obtain⟨y9,e9,-⟩:=YI Zh t9;have k9:x9=.int .i64 y9:=Zx e9;obtain⟨_,c3⟩:=g 8 _ rfl;obtain⟨y,S,-⟩:=YI Zh c3;have av:d0=.int .i64 y:=Zx S;obtain⟨_,c4⟩:=g 9 _ rfl;obtain⟨Y,U,-⟩:=YI Zh c4;have b0:d1=.int .i64 Y:=Zx U;obtain⟨_,c5⟩:=g 10 _ rfl;obtain⟨j,V,-⟩:=YI Zh c5;have b1:d2=.int .i64 j:=Zx V;obtain⟨_,c6⟩:=g 11 _ rfl;obtain⟨k,X,-⟩:=YI Zh c6;have b2:d3=.int .i64 k:=Zx X;obtain⟨_,c7⟩:=g 12 _ rfl;obtain⟨o,Z,-⟩:=YI Zh c7;have b3:d4=.int .i64 o:=Zx Z;obtain⟨_,c8⟩:=g 13 _ rfl;obtain⟨p,a0,-⟩:=YI Zh c8;have b4:d5=.int .i64 p:=Zx a0;obtain⟨_,c9⟩:=g 14 _ rfl;obtain⟨q,a3,-⟩:=DataW.trod_bool Vo c9;have b5:d6=.bool q:=Zx a3;obtain⟨_,ca⟩:=g 15 _ rfl;obtain⟨r,a4,-⟩:=YI Zh ca;have b6:d7=.int .i64 r:=Zx a4;obtain⟨_,cb⟩:=g 16 _ rfl;obtain⟨s,a5,-⟩:=Wp WO cb;have b7:d8=.string s:=Zx a5;obtain⟨_,cc⟩:=g 17 _ rfl;obtain⟨u,a6,-⟩:=Wp WO cc;have b8:d9=.string u:=Zx a6;obtain⟨_,cd⟩:=g 18 _ rfl;obtain⟨w,a7,-⟩:=YI Zh cd;have b9:dj=.int .i64 w:=Zx a7;obtain⟨_,ce⟩:=g 19 _ rfl;obtain⟨A,a8,-⟩:=YI Zh ce;have ba:dl=.int .i64 A:=Zx a8;obtain⟨_,cg⟩:=g 20 _ rfl;obtain⟨B,a9,-⟩:=DataW.trod_bool Vo cg;have bb:dm=.bool B:=Zx a9;obtain⟨_,T⟩:=f 3 _ rfl;obtain⟨L,i,Q,q1,l1⟩:=ru (v:=dq) Tryz.underlying26 T;obtain⟨_,ck⟩:=f 4 _ rfl;obtain⟨C,aa,-⟩:=YI Zh ck;have bc:ds=.int .i64 C:=Zx aa;obtain⟨_,cm⟩:=f 5 _ rfl;obtain⟨D,ab,-⟩:=YI Zh cm;have be:du=.int .i64 D:=Zx ab;obtain⟨_,cn⟩:=f 6 _ rfl;obtain⟨E,ac,-⟩:=YI Zh cn;have bi:ee=.int .i64 E:=Zx ac;obtain⟨_,cp⟩:=f 7 _ rfl;obtain⟨F,ad,-⟩:=DataW.trod_bool Vo cp;have bk:ei=.bool F:=Zx ad;obtain⟨_,cq⟩:=f 8 _ rfl;obtain⟨G,af,-⟩:=Wp WO cq;have bp:el=.string G:=Zx af;obtain⟨_,cr⟩:=f 9 _ rfl;obtain⟨I,al,-⟩:=Wp WO cr;have br:em=.string I:=Zx al;obtain⟨_,ct⟩:=f 10 _ rfl;obtain⟨J,ao,-⟩:=YI Zh ct;have bs:en=.int .i64 J:=Zx ao;obtain⟨_,cw⟩:=f 11 _ rfl;obtain⟨K,ar,-⟩:=YI Zh cw;have c0:ep=.int .i64 K:=Zx ar;obtain⟨_,cz⟩:=f 12 _ rfl;obtain⟨O,N,R,q2,l2,g2⟩:=BJ (v:=er) cz;subst q1 q2 k0 k1 k2 k3 k4 k5 k6 k7 k8 k9 av b0 b1 b2 b3 b4 b5 b6 b7 b8 b9 ba bb bc be bi bk bp br bs c0;exact⟨⟨y0,y1,y2,y3,y4,y5,y6,y7,y8,y9,y,Y,j,k,o,p,q,r,s,u,w,A,B,C,D,E,F,G,I,J,K⟩,L,i,Q,O,N,R,by unfold En.vals;rfl,l1,l2,g2,_,_,T⟩
end
section
open Go.ChangeShapes Go.WideShapes Go.RowKit
end
end Go.Proofs.YtnkjliahpeebjaaGreatDoor
