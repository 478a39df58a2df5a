/- Catalogs. -/
import Derived.Test.YtnkjliahpeebjaaGreatDoorCards
import Derived.Test.YtnkjliahpeebjaaGreatDoorTie
import Derived.Deep.DeepHandedRow
import Derived.Stop.LaidErr
import Derived.Lay
import Derived.Test.YtnkjliahpeebjaaGreatDoorChA
import Derived.Test.YtnkjliahpeebjaaGreatDoorSrt
set_option maxRecDepth 100000
open Option renaming some->Z9,none->Z7
open Go.Proofs.Tryz renaming prog->Z8,underlying3->Zg,underlying9->Xu,underlying4->Vh
open _root_ renaming List->Z3,Option->Zm
open Go renaming Value->Z1,TypeId->Y0,MemPlace->VM,DataW->Vg
open Bool renaming true->ZZ
open List renaming getElem?_eq_getElem->ZF,head_eq_of_cons_eq->ZB
open Go.DataW renaming trod_int->YS,trod_string->Xa,trod->V5
open Go.Addr renaming add->WC,add_mid->VL
namespace Go.Proofs.YtnkjliahpeebjaaGreatDoor
variable{H:Type}{P:Program}{W W':World}{base j:Nat}{v:Z1}{cs:Z3 Z1}{t e:Y0}{r:Reach}{a:Array Field}
section
open Go.ChangeShapes Go.WideShapes Go.ChangeAt Go.RowKit
theorem ownk:ownKnob Tryz.prog.godebug=Z7:=by kernel_rfl
theorem ET:laidOutB Z8=ZZ:=by kernel_rfl
theorem rk{H:Type}{enc:Y0 × Z1->H}{W W':World}(l:Below W.heap.size W W')(S:Nat->Bool) :
 ∀ (T:Z3 Y0) (V:Z3 Z1) (D:Z3 (Vg H)) (s:Z3 VM),(∀ t∈T,Tryz.prog.readableRec t=ZZ/\t<Tryz.prog.types.size)->DataW.TrodAll enc Z8 W 0 (fun _=>ZZ) ZZ T V D s ->
  (∀ p∈s,p.block<W.heap.size)->(∀ p∈s,S p.block=ZZ)->DataW.TrodAll enc Z8 W' 0 S ZZ T V D s
 | [],V,D,s,_,h,_,_=>by
   obtain⟨rfl,rfl,rfl⟩:=trodAll_nil h;exact trodAll_mk0
 | t::T,V,D,s,m,h,c,f=>by
   obtain⟨v,i,d,g,p,q,rfl,rfl,rfl,n,o⟩:=trodAll_cons h;have k:=m t (by simp)
   exact trodAll_cons_mk (WideElems.Trod_stays ET k.1 k.2 n (fun x b=>l.same (c x (by simp [b]))) (fun x b=>f x (by simp [b])))
    (rk l S T i g q (fun u w=>m u (by simp [w])) o (fun x b=>c x (by simp [b])) (fun x b=>f x (by simp [b])))
theorem yT{enc:Y0 × Z1->H}(f:Below W.heap.size W W'){T:Z3 Y0}{V:Z3 Z1}{d:Z3 (Vg H)}{s:Z3 VM}(i:(T.all fun t=>Tryz.prog.readableRec t&&decide (t<Tryz.prog.types.size))=ZZ)(h:DataW.TrodAll enc Z8 W 0 (fun _=>ZZ) ZZ T V d s)(c:∀ p∈s,p.block<W.heap.size):DataW.TrodAll enc Z8 W' 0 (fun b=>decide (b<W.heap.size)) ZZ T V d s :=
 rk f _ T V d s (fun t m=>by have:=List.all_eq_true.1 i t m;simpa using this) h c (fun p g=>by simpa using c p g)
theorem yH{enc:Y0 × Z1->H}{C:Checked}{o:Os}{f:FuncId}{F:Func}{s:OpenSpec}{c:Z3 PathCond}{b:Bool}{l:Z3 (String × Vg Unit)}(modest:Bool)(A:Array Z1)(g:((World.laidAll C.prog o l).forCall (fun _ _=>0) ⟨#[],A,[]⟩).Shaped C.prog)(h:Input.okWideB C.prog ((World.laidAll C.prog o l).forCall (fun _ _=>0) ⟨#[],A,[]⟩) f ⟨#[],A,[]⟩=ZZ)(d:s.preRow enc C.prog F c b l ((World.laidAll C.prog o l).forCall (fun _ _=>0) ⟨#[],A,[]⟩).memory A) :
 ∃ (w:World) (T:Tape) (i:Input),w.os=o/\(w.forCall T i).Shaped C.prog/\i.vars=[]/\Input.okWide C.prog (w.forCall T i) .any w.heap.size f i/\
  s.preRow enc C.prog F c b l (w.forCall T i).memory i.args/\({ modest:=modest }:Assume).holds C.prog (lone (Frame.enter C.prog f i.args .normal) [] (w.forCall T i)) :=
 ⟨World.laidAll C.prog o l,fun _ _=>0,⟨#[],A,[]⟩,World.laidAll_os _ _ _,g,(Input.okWide_of_okWideB (base:=0) h).1,(Input.okWide_of_okWideB h).2,d,by
  simp only[Assume.holds]
  exact⟨by simp,by simp,fun _=>Modest.zero,by simp,by simp⟩⟩
end
theorem Cn:(Tryz.prog.globals[3]?).map (·.type)=Z9 367:=by kernel_rfl
theorem AH:Tryz.prog.cellsOf 367=20:=by kernel_rfl
theorem AI:Tryz.prog.cellsOf 243=1:=by kernel_rfl
theorem Ik{rest:Z3 (String × Vg Unit)}(h:laidMet Z8 (("math/bits.deBruijn32tab", Rows.laid_math_bits_deBruijn32tab) :: ("math/bits.deBruijn64tab", Rows.laid_math_bits_deBruijn64tab) :: ("internal/strconv.uint64pow10", Rows.laid_internal_strconv_uint64pow10) :: rest) W) : Tab W :=
 Lib.tabIs_of_head (rest:=rest) kJ Cn Tryz.underlying367 Tryz.underlying243 AI AH (laidMet.tail (laidMet.tail h))
theorem Gi(h:W.ShapedOpen Z8):MaxL W:=Tryz.laysM144.s1_3 W h
section
open Go.ChangeShapes Go.WideShapes Go.RowKit
end
section
open Go.ChangeShapes Go.WideShapes Go.RowKit
theorem zu{w:World}(b:P.underlying t=Z9 (.struct a))(h:Value.okWide P w r base t v):∃ cs,v=.agg cs/\cs.size=P.cellsOf t/\Row.okWide P w r base t cs:=by
 simpa only [Value.okWide,b] using h
theorem yx{enc:Y0 × Z1->H}{x:Vg H × Z3 VM}(h:V5 enc Z8 W 0 (fun _=>ZZ) ZZ j 27 [v]=Z9 x) :
 ∃ (a:Zm Addr) (n c:Nat),v=.slice a n c/\(n<=1000->∃ l:Z3 Gr,l.length=n/\GS W v l):=by
 rcases Go.Deep.open_slice Tryz.underlying27 h with ⟨w,-⟩|⟨a,L,C,m,f,D,Pl,w,-,hl,-,Y,-,V⟩
 .obtain rfl:v=.slice Z7 0 0:=by simpa using w
  exact⟨Z7,0,0,rfl,fun _=>⟨[],rfl,GS.nil W⟩⟩
 .obtain rfl:v=.slice (Z9 a) L C:=by simpa using w
  refine⟨Z9 a,L,C,rfl,fun hn=>?_⟩
  have Q:Tryz.prog.cellsOf 103=3:=by kernel_rfl
  have E:∀ i,i<L->∃ g:Gr,W.cell? (a.add (i*3))=Z9 (.string g.1)/\W.cell? ((a.add (i*3)).add 1)=Z9 (.bool g.2.1)/\W.cell? ((a.add (i*3)).add 2)=Z9 (.int .i64 g.2.2):=fun i p=>by
   obtain⟨cs,B,Z⟩:=V i (by rw[Y];split <;> omega);rw[Q] at B;obtain⟨_,y,d⟩:=World.cells?_some B;obtain⟨y0,y1,y2,n',-,-,R,S,T⟩:=Go.Deep.trod_struct3 Tryz.underlying103 Z
   match cs,y with
   | [q,I,J],_ =>
     obtain⟨b,K,-⟩:=Xa Xu R;obtain⟨g,N,-⟩:=DataW.trod_bool Vh S;obtain⟨l,O,-⟩:=YS Zg T;have k0:q=.string b:=ZB K;have k1:I=.bool g:=ZB N;have k2:J=.int .i64 l:=ZB O;subst k0 k1 k2;exact⟨(b,g,l),by simpa [WC] using d 0 (by omega),d 1 (by omega),d 2 (by omega)⟩
  let G:Nat->Gr:=fun i=>if h:i<L then Classical.choose (E i h) else (⟨#[]⟩,false,0)
  have A:∀ i,i<L->W.cell? (a.add (i*3))=Z9 (.string (G i).1)/\W.cell? ((a.add (i*3)).add 1)=Z9 (.bool (G i).2.1)/\W.cell? ((a.add (i*3)).add 2)=Z9 (.int .i64 (G i).2.2):=fun i p=>by
   have:=Classical.choose_spec (E i p);simp only[G,dif_pos p];exact this
  refine⟨(List.range L).map G,by simp,Z9 a,C,by simp,by simp;omega,fun U=>?_⟩
  have u:0<L:=by simpa using U
  have q:=(A 0 u).1
  have F:a.spot=Z7:=by
   have:=World.cell?_spot q;simpa [WC] using this
  obtain⟨b,o,s⟩:=a;simp only at F
  subst F;refine⟨b,o,rfl,?_,fun k X=>?_⟩
  .have:=World.block_lt_of_cell? W _ q;simpa [WC] using this
  .have z:k<L:=by simpa using X
   have:=A k z;rw[VL,VL,VL] at this;simpa using this
end
section
open Go.ChangeShapes Go.WideShapes Go.RowKit
theorem nk{enc:Y0 × Z1->H}{s:Nat->Bool}{d:Bool}{x:Vg H × Z3 VM}(k:P.underlying t=Z9 (.struct a))(h:V5 enc P W base s d j t cs=Z9 x) :
 ∃ n,∀ (i:Nat) (f:Field),a[i]?=Z9 f->∃ y,V5 enc P W base s d n f.type ((cs.drop f.offset).take (P.cellsOf f.type))=Z9 y:=by
 obtain⟨X,n,-,-,-,l,c⟩:=DataW.trod_struct k h;refine⟨n,fun i f b=>?_⟩
 have g:i<a.size:=by
  rcases Nat.lt_or_ge i a.size with h|h
  .exact h
  .rw[Array.getElem?_eq_none h] at b;cases b
 exact⟨X[i]'(by omega),(c i f b).trans (ZF _)⟩
theorem ru{enc:Y0 × Z1->H}{x:Vg H × Z3 VM}(g:P.underlying t=Z9 (.slice e))(h:V5 enc P W 0 (fun _=>ZZ) ZZ j t [v]=Z9 x) :
 ∃ (a:Zm Addr) (n c:Nat),v=.slice a n c/\n<=9223372036854775807:=by
 rcases Go.Deep.open_slice g h with ⟨b,-⟩|⟨a,l,C,m,f,D,i,b,-,k,d,-⟩
 .exact⟨Z7,0,0,ZB b,by omega⟩
 .exact⟨Z9 a,l,C,ZB b,by simp only[maxLen] at d;omega⟩
theorem BJ{enc:Y0 × Z1->H}{x:Vg H × Z3 VM}(h:V5 enc Z8 W 0 (fun _=>ZZ) ZZ j 27 [v]=Z9 x) :
 ∃ (a:Zm Addr) (n c:Nat),v=.slice a n c/\n<=9223372036854775807/\(n<=1000->∃ l:Z3 Gr,l.length=n/\GS W v l):=by
 obtain⟨a,n,c,rfl,f⟩:=ru Tryz.underlying27 h;obtain⟨A,N,C,e,g⟩:=yx h;injection e with E b d
 subst E b d;exact⟨a,n,c,rfl,f,g⟩
theorem uA{enc:Y0 × Z1->H}{x:Vg H × Z3 VM}(hl:cs.length=33)(h:V5 enc Z8 W 0 (fun _=>ZZ) ZZ j 29 cs=Z9 x) :
 ∃ (e:En) (K:Zm Addr) (b O:Nat) (L:Zm Addr) (N Q:Nat),cs=(e.vals (.slice K b O) (.slice L N Q)).toList/\b<=9223372036854775807/\N<=9223372036854775807/\(N<=1000->∃ l:Z3 Gr,l.length=N/\GS W (.slice L N Q) l)/\∃ (fl:Nat) (z:Vg H × Z3 VM),V5 enc Z8 W 0 (fun _=>ZZ) ZZ fl 26 [.slice K b O]=Z9 z:=by
 rcases cs with _|⟨x0,_|⟨x1,_|⟨x2,_|⟨x3,_|⟨x4,_|⟨x5,_|⟨x6,_|⟨x7,_|⟨x8,_|⟨x9,_|⟨cm,_|⟨cn,_|⟨co,_|⟨cp,_|⟨cq,_|⟨cr,_|⟨ct,_|⟨cu,_|⟨cw,_|⟨cz,_|⟨d0,_|⟨d1,_|⟨d2,_|⟨d3,_|⟨d4,_|⟨d5,_|⟨d6,_|⟨d7,_|⟨d8,_|⟨d9,_|⟨dl,_|⟨dq,_|⟨ds,_|⟨ea,l⟩⟩⟩⟩⟩⟩⟩⟩⟩⟩⟩⟩⟩⟩⟩⟩⟩⟩⟩⟩⟩⟩⟩⟩⟩⟩⟩⟩⟩⟩⟩⟩⟩⟩ <;> simp at hl
 obtain⟨n,f⟩:=nk Tryz.underlying29 h;obtain⟨_,t0⟩:=f 0 _ rfl;obtain⟨y0,e0,-⟩:=YS Zg t0;have k0:x0=.int .i64 y0:=ZB e0;obtain⟨_,t1⟩:=f 1 _ rfl;obtain⟨y1,e1,-⟩:=Xa Xu t1;have k1:x1=.string y1:=ZB e1;obtain⟨_,hd⟩:=f 2 _ rfl;obtain⟨m,g⟩:=nk Tryz.underlying25 hd;obtain⟨_,t2⟩:=g 0 _ rfl;obtain⟨y2,e2,-⟩:=YS Zg t2;have k2:x2=.int .i64 y2:=ZB e2;obtain⟨_,t3⟩:=g 1 _ rfl;obtain⟨y3,e3,-⟩:=YS Zg t3;have k3:x3=.int .i64 y3:=ZB e3;obtain⟨_,t4⟩:=g 2 _ rfl;obtain⟨y4,e4,-⟩:=YS Zg t4;have k4:x4=.int .i64 y4:=ZB e4;obtain⟨_,t5⟩:=g 3 _ rfl;obtain⟨y5,e5,-⟩:=YS Zg t5;have k5:x5=.int .i64 y5:=ZB e5;obtain⟨_,t6⟩:=g 4 _ rfl;obtain⟨y6,e6,-⟩:=YS Zg t6;have k6:x6=.int .i64 y6:=ZB e6;obtain⟨_,t7⟩:=g 5 _ rfl;obtain⟨y7,e7,-⟩:=YS Zg t7;have k7:x7=.int .i64 y7:=ZB e7;obtain⟨_,t8⟩:=g 6 _ rfl;obtain⟨y8,e8,-⟩:=YS Zg t8;have k8:x8=.int .i64 y8:=ZB e8;obtain⟨_,t9⟩:=g 7 _ rfl;obtain⟨y9,e9,-⟩:=YS Zg t9;have k9:x9=.int .i64 y9:=ZB e9;obtain⟨_,bk⟩:=g 8 _ rfl;obtain⟨y,R,-⟩:=YS Zg bk;have ao:cm=.int .i64 y:=ZB R;obtain⟨_,bp⟩:=g 9 _ rfl;obtain⟨Y,S,-⟩:=YS Zg bp;have ar:cn=.int .i64 Y:=ZB S;obtain⟨_,br⟩:=g 10 _ rfl;obtain⟨c,U,-⟩:=YS Zg br;have av:co=.int .i64 c:=ZB U;obtain⟨_,bs⟩:=g 11 _ rfl;obtain⟨d,V,-⟩:=YS Zg bs;have b0:cp=.int .i64 d:=ZB V;obtain⟨_,bv⟩:=g 12 _ rfl;obtain⟨i,X,-⟩:=YS Zg bv;have b1:cq=.int .i64 i:=ZB X;obtain⟨_,c0⟩:=g 13 _ rfl;obtain⟨k,Z,-⟩:=YS Zg c0;have b2:cr=.int .i64 k:=ZB Z;obtain⟨_,c3⟩:=g 14 _ rfl;obtain⟨o,a0,-⟩:=DataW.trod_bool Vh c3;have b3:ct=.bool o:=ZB a0;obtain⟨_,c4⟩:=g 15 _ rfl;obtain⟨p,a3,-⟩:=YS Zg c4;have b4:cu=.int .i64 p:=ZB a3;obtain⟨_,c5⟩:=g 16 _ rfl;obtain⟨q,a4,-⟩:=Xa Xu c5;have b5:cw=.string q:=ZB a4;obtain⟨_,c6⟩:=g 17 _ rfl;obtain⟨s,a5,-⟩:=Xa Xu c6;have b6:cz=.string s:=ZB a5;obtain⟨_,c7⟩:=g 18 _ rfl;obtain⟨u,a6,-⟩:=YS Zg c7;have b7:d0=.int .i64 u:=ZB a6;obtain⟨_,c8⟩:=g 19 _ rfl;obtain⟨w,a7,-⟩:=YS Zg c8;have b8:d1=.int .i64 w:=ZB a7;obtain⟨_,c9⟩:=g 20 _ rfl;obtain⟨A,a8,-⟩:=DataW.trod_bool Vh c9;have b9:d2=.bool A:=ZB a8;obtain⟨_,T⟩:=f 3 _ rfl;obtain⟨K,b,O,q1,l1⟩:=ru (v:=d3) Tryz.underlying26 T;obtain⟨_,ca⟩:=f 4 _ rfl;obtain⟨B,a9,-⟩:=YS Zg ca;have ba:d4=.int .i64 B:=ZB a9;obtain⟨_,cb⟩:=f 5 _ rfl;obtain⟨C,aa,-⟩:=YS Zg cb;have bb:d5=.int .i64 C:=ZB aa;obtain⟨_,cc⟩:=f 6 _ rfl;obtain⟨D,ab,-⟩:=YS Zg cc;have bc:d6=.int .i64 D:=ZB ab;obtain⟨_,cd⟩:=f 7 _ rfl;obtain⟨E,ac,-⟩:=DataW.trod_bool Vh cd;have bd:d7=.bool E:=ZB ac;obtain⟨_,ce⟩:=f 8 _ rfl;obtain⟨F,ad,-⟩:=Xa Xu ce;have be:d8=.string F:=ZB ad;obtain⟨_,cg⟩:=f 9 _ rfl;obtain⟨G,af,-⟩:=Xa Xu cg;have bg:d9=.string G:=ZB af;obtain⟨_,ch⟩:=f 10 _ rfl;obtain⟨I,ag,-⟩:=YS Zg ch;have bi:dl=.int .i64 I:=ZB ag;obtain⟨_,ci⟩:=f 11 _ rfl;obtain⟨J,al,-⟩:=YS Zg ci;have bj:dq=.int .i64 J:=ZB al;obtain⟨_,ck⟩:=f 12 _ rfl;obtain⟨L,N,Q,q2,l2,g2⟩:=BJ (v:=ds) ck;subst q1 q2 k0 k1 k2 k3 k4 k5 k6 k7 k8 k9 ao ar av b0 b1 b2 b3 b4 b5 b6 b7 b8 b9 ba bb bc bd be bg bi bj;exact⟨⟨y0,y1,y2,y3,y4,y5,y6,y7,y8,y9,y,Y,c,d,i,k,o,p,q,s,u,w,A,B,C,D,E,F,G,I,J⟩,K,b,O,L,N,Q,by unfold En.vals;rfl,l1,l2,g2,_,_,T⟩
end
section
open Go.ChangeShapes Go.WideShapes Go.RowKit
theorem BK{enc:Y0 × Z1->H}{x:Vg H × Z3 VM}(i:cs.length=3)(h:V5 enc Z8 W 0 (fun _=>ZZ) ZZ j 89 cs=Z9 x) :
 ∃ y:Rw,cs=[.int .i64 y.1,.string y.2.1,.string y.2.2]:=by
 rcases cs with _|⟨X,_|⟨p,_|⟨q,_|⟨s,l⟩⟩⟩⟩ <;> simp at i
 obtain⟨n,f⟩:=nk Tryz.underlying89 h;obtain⟨_,T⟩:=f 0 _ rfl;obtain⟨Y,E,-⟩:=YS Zg T;have k0:X=.int .i64 Y:=ZB E;obtain⟨_,m⟩:=f 1 _ rfl;obtain⟨b,d,-⟩:=Xa Xu m;have k1:p=.string b:=ZB d;obtain⟨_,o⟩:=f 2 _ rfl;obtain⟨c,g,-⟩:=Xa Xu o;have k:q=.string c:=ZB g;subst k0 k1 k;exact⟨(Y,b,c),rfl⟩
theorem Ep{enc:Y0 × Z1->H}{d:Vg H}{p:Z3 VM}(Z:Value.okWide Z8 W r base 49 v)(h:DataW.Trod enc Z8 W 0 (fun _=>ZZ) ZZ 49 v d p) :
 ∃ (a:Zm Addr) (n c:Nat) (F:Nat->Rw),v=.slice a n c/\RwL W a n F:=by
 obtain⟨a,n,c,rfl⟩:=okWide_slice Tryz.underlying49 Z;obtain⟨j,X⟩:=h;rcases Go.Deep.open_slice Tryz.underlying49 X with ⟨I,-⟩|⟨A,a0,U,m,f,D,Pl,I,-,hl,u,R,-,O⟩
 .have:=ZB I;injection this with z B G
  subst z B G;exact⟨Z7,0,0,fun _=>(0,⟨#[]⟩,⟨#[]⟩),rfl,by omega,fun k w=>by omega⟩
 .have:=ZB I;injection this with z B G
  subst z B G;have i:Tryz.prog.cellsOf 89=3:=by kernel_rfl
  have E:∀ k,k<n->∃ (x:Rw) (b o:Nat),A=⟨b,o,Z7⟩/\b<W.heap.size/\RwAt W b (o+k*3) x:=fun k w=>by
   obtain⟨cs,L,Y⟩:=O k (by rw[R];split <;> omega);rw[i] at L;obtain⟨_,J,g⟩:=World.cells?_some L;obtain⟨y,rfl⟩:=BK J Y;obtain⟨C,q,-⟩:=O 0 (by rw[R];split <;> omega);rw[i] at q;obtain⟨_,N,l⟩:=World.cells?_some q;have z0:=(l 0 (by omega)).trans (ZF (by omega:0<C.length));obtain⟨b,o,s⟩:=A
   obtain rfl:s=Z7:=by
    have:=World.cell?_spot z0;simpa [WC] using this
   have Q:=g 0 (by omega);have S:=g 1 (by omega);have T:=g 2 (by omega);rw[VL,VL] at Q S T;exact⟨y,b,o,rfl,block_lt_of_cell Q,Q,S,T⟩
  refine⟨Z9 A,n,c,fun k=>if h:k<n then Classical.choose (E k h) else (0,⟨#[]⟩,⟨#[]⟩),rfl,by simp only[maxLen] at u;omega,fun k w=>?_⟩
  obtain⟨b,o,ha,K,V⟩:=Classical.choose_spec (E k w);refine⟨b,o,by rw[ha],K,?_⟩
  simp only[dif_pos w]
  exact V
end
end Go.Proofs.YtnkjliahpeebjaaGreatDoor
