/- Catalogs. -/
import Derived.Test.YtnkjliahpeebjaaGreatDoorSrt
import Derived.Test.YtnkjliahpeebjaaGreatDoorNo
set_option maxRecDepth 8000
set_option maxHeartbeats 16000000
open Option renaming some->Z9,none->Z8
open _root_ renaming List->Z5,if_neg->Z0,decide_eq_true->ZL,beq_eq_false_iff_ne->ZG,decide_eq_false->ZF,beq_iff_eq->Yy
open Go.RowKit renaming Below->ZV,intOf->Y4
open Nat renaming le_refl->ZS,zero_le->Y7,lt_or_ge->YI,zero_add->YE
open Option.some renaming inj->ZR
open List renaming length_append->ZQ,length_cons->ZK,take_of_length_le->ZC,take_succ_eq_append_getElem->ZB,setIfInBounds_toArray->YW,foldl_cons->YS,length_take->YH,set_cons_zero->Ye,set_cons_succ->Yd,takeWhile_append_dropWhile->X0,foldl_append->Xh
open Go.RowKit.Below renaming refl->ZM,drew->X2
open Go.Act renaming put->Zu,eval->Yp
open Go renaming maxLen->X9,wp_region_held_drew->Xf,wpAnyH_done->WC,wpAnyH_ready->VM
open Go.AllReadyH renaming cons->Xg,nil->VR
open Go.Value renaming ownBlock->WW
open Go.World renaming drewN->WB
namespace Go.Proofs.YtnkjliahpeebjaaGreatDoor
variable(m:Value)(d l:Z5 Rw)(c:Ch)(g f base:Nat)(x:Rw)(a D:Z5 Rw)
def cy(x y:Rw):Bool:=decide (y.1<x.1) || (decide (y.1=x.1)&&bB (aU y) (aU x))
def cO(x:Rw)(a:Z5 Rw):Z5 Rw:=a.takeWhile (cy x)++x::a.dropWhile (cy x)
def jL(c:Ch)(x:Rw):Bool:=decide (x.1=c.2.1)&&decide (x.2.1=c.2.2.1)
def cD(c:Ch)(a:Z5 Rw):Z5 Rw:=a.filter fun x=>!jL c x
def eJ(a:Z5 Rw)(c:Ch):Z5 Rw:=if c.1=0 then cO (c.2.1,c.2.2.1,c.2.2.2.1) (cD c a) else cD c a
def eA(d:Z5 Rw):Z5 Rw:=d.foldl (fun o x=>cO x o) []
def apl(d:Z5 Rw)(l:Z5 Ch):Z5 Rw:=l.foldl eJ (eA d)
theorem uU:cO x a=(a.take (a.takeWhile (cy x)).length++[x])++a.drop (a.takeWhile (cy x)).length:=by
 unfold cO;have e:a.takeWhile (cy x)++a.dropWhile (cy x)=a:=X0
 have h:a.take (a.takeWhile (cy x)).length=a.takeWhile (cy x):=by
  conv=>lhs;rw[<-e]
  rw[List.take_left'];rw[e]
 have H:a.drop (a.takeWhile (cy x)).length=a.dropWhile (cy x):=by
  conv=>lhs;rw[<-e]
  rw[List.drop_left'];rw[e]
 rw[h,H,List.append_assoc];rfl
theorem eZ:(cO x a).length=a.length+1:=by
 have e:(a.takeWhile (cy x)++a.dropWhile (cy x)).length=a.length:=by rw[X0]
 unfold cO;rw[ZQ] at e |-;rw[ZK];omega
theorem yg:eA (l++[x])=cO x (eA l):=by
 unfold eA;rw[Xh];rfl
theorem rG:(eA l).length=l.length:=by
 have:∀ (l o:Z5 Rw),(l.foldl (fun o x=>cO x o) o).length=o.length+l.length:=by
  intro l
  induction l with
  | nil=>intro o;rfl
  | cons x l i=>intro o;rw[YS,i,eZ,ZK];omega
 unfold eA;rw[this];simp
theorem AG(l:Z5 Ch)(c:Ch):apl d (l++[c])=eJ (apl d l) c:=by
 unfold apl;rw[Xh];rfl
theorem rH:(cD c a).length<=a.length:=List.length_filter_le _ _
theorem Dq(c:Ch):(eJ a c).length<=a.length+1:=by
 have h:=rH c a;unfold eJ;split
 .rw[eZ];omega
 .omega
theorem pt(l:Z5 Ch):(apl d l).length<=d.length+l.length:=by
 have:∀ (l:Z5 Ch) (o:Z5 Rw),(l.foldl eJ o).length<=o.length+l.length:=by
  intro l
  induction l with
  | nil=>intro o;exact ZS _
  | cons x l i =>
    intro o;have H:=i (eJ o x);have b:=Dq o x;rw[YS,ZK];omega
 unfold apl;have h:=this l (eA d);rw[rG] at h;exact h
theorem yi{c:Ch}{D:Z5 Rw}{j:Nat}(h:j<D.length):cD c (D.take (j+1))=if jL c D[j]=true then cD c (D.take j) else cD c (D.take j)++[D[j]]:=by
 unfold cD;rw[ZB h,List.filter_append];by_cases e:jL c D[j]=true
 .rw[if_pos e,List.filter_cons_of_neg (by rw[e];simp),List.filter_nil,List.append_nil]
 .rw[Z0 e,List.filter_cons_of_pos (by simpa using e),List.filter_nil]
section
open Go.RowKit
set_option linter.unusedSimpArgs false
set_option linter.unusedVariables false
theorem GK(i:Nat)(h:i<D.length):(i<(D.takeWhile (cy x)).length->cy x D[i]=true)/\(i=(D.takeWhile (cy x)).length->cy x D[i]=false):=qP (cy x) D i h
theorem vk(x:Rw)(w:World)(hO:w.ownsRow base 89 3 (.slice (Z9 ⟨g,0,Z8⟩) D.length f) D.length (rv D))(hn:D.length<=100000) :
 Calls Tryz.prog 73 #[.slice (Z9 ⟨g,0,Z8⟩) D.length f,.agg #[.int .i64 x.1,.string x.2.1,.string x.2.2]] w fun r w'=>∃ g' c',r=.returned (.slice (Z9 ⟨g',0,Z8⟩) (cO x D).length c')/\w'.ownsRow w.heap.size 89 3 (.slice (Z9 ⟨g',0,Z8⟩) (cO x D).length c') (cO x D).length (rv (cO x D))/\ZV w.heap.size w w':=by
 have P:=tU hO;have ag:g<w.heap.size:=(ax hO g rfl).2;have N0:(w.alloc (.cells #[.int .i64 x.1,.string x.2.1,.string x.2.2] 89)).cell? ⟨w.heap.size,0,Z8⟩=Z9 (.int .i64 x.1):=ae (ak w _ 89 (0,0)) 0 _ rfl;have N1:(w.alloc (.cells #[.int .i64 x.1,.string x.2.1,.string x.2.2] 89)).cell? ⟨w.heap.size,1,Z8⟩=Z9 (.string x.2.1):=ae (ak w _ 89 (0,0)) 1 _ rfl;have N2:(w.alloc (.cells #[.int .i64 x.1,.string x.2.1,.string x.2.2] 89)).cell? ⟨w.heap.size,2,Z8⟩=Z9 (.string x.2.2):=ae (ak w _ 89 (0,0)) 2 _ rfl;have a6:(w.alloc (.cells #[.int .i64 x.1,.string x.2.1,.string x.2.2] 89)).ownsRow base 89 3 (.slice (Z9 ⟨g,0,Z8⟩) D.length f) D.length (rv D):=aV hO (fun y hy=>(aj w _).block y (ax hO y hy).2);have a3:=lh a6;have a2:=lh (aj w (.cells #[.int .i64 x.1,.string x.2.1,.string x.2.2] 89))
 have ab:∀ j (h:j<D.length),(w.alloc (.cells #[.int .i64 x.1,.string x.2.1,.string x.2.2] 89)).cell? ⟨g,j*3,Z8⟩=Z9 (.int .i64 D[j].1)/\(w.alloc (.cells #[.int .i64 x.1,.string x.2.1,.string x.2.2] 89)).cell? ⟨g,j*3+1,Z8⟩=Z9 (.string D[j].2.1):=fun j h=>by
  have:=((jX (by omega) (dU a6)):RwS _ _ D);obtain⟨a',c',e,-,hp⟩:=this;obtain⟨b',o',rfl,-,u⟩:=hp (by omega);cases e
  have q:=u j h;rw[YE] at q;exact⟨q.1,q.2.1⟩
 have ad:=lh ab;clear a6 ab hO;go_enter Tryz.func73,Tryz.ntmps73
 go_wp2_with fail
 generalize hW:w.alloc (.cells #[.int .i64 x.1,.string x.2.1,.string x.2.2] 89)=W1 at *;clear hW;go_loopw [5] (fun j af=>∃ (i q:Nat),i<=(D.takeWhile (cy x)).length/\j=.int .i64 i/\af=W1.drewN q) (fun j _=>D.length - (Y4 j).toNat)
 case atStart=>exact⟨0,0,Y7 _,rfl,rfl⟩
 case round =>
  obtain⟨i,q,hi,rfl,rfl⟩:=hrel;have al:=xt (cy x) D;have i1:(0:Int)<=(i:Int):=by omega
  by_cases ac:i<D.length
  .have i2:(i:Int)<(D.length:Int):=by omega
   have i3:i<=D.length:=by omega
   obtain⟨c0,c1⟩:=ad.o i ac;have X:=GK x D i ac;unfold cy at X;have t4:=mN D[i].2.1 x.2.1;by_cases e1:D[i].1<x.1
   .have t1:decide (D[i].1<x.1)=true:=ZL e1
    have a4:Hid (i+1<=(D.takeWhile (cy x)).length):=lh (by
     rcases YI i (D.takeWhile (cy x)).length with h|h
     .exact h
     .have h2:=X.2 (by unfold cy at *;omega);rw[t1] at h2;simp at h2)
    clear X t4 e1;go_wp2_with fail
    go_quiet (fail)
    go_wp2_with fail
    go_roundw
    case rel=>exact⟨i+1,_,a4.o,by go_num,rfl⟩
    case measure=>simp [Y4];omega
   have t1:decide (D[i].1<x.1)=false:=ZF e1;by_cases e5:D[i].1=x.1/\bB (Ds.bl D[i].2.1) (Ds.bl x.2.1)=true
   .obtain⟨e2,e4⟩:=e5;have t2:(D[i].1==x.1)=true:=Yy.2 e2;rw[e4] at t4
    have a4:Hid (i+1<=(D.takeWhile (cy x)).length):=lh (by
     rcases YI i (D.takeWhile (cy x)).length with h|h
     .exact h
     .have h2:=X.2 (by unfold cy at *;omega);rw[ZL e2,show bB (aU D[i]) (aU x)=true from e4] at h2;simp at h2)
    clear X e1 e2 e4;go_wp2_with fail
    go_quiet (fail)
    go_wp2_with fail
    go_roundw
    case rel=>exact⟨i+1,_,a4.o,by go_num,rfl⟩
    case measure=>simp [Y4];omega
   have HI:Hid (i=(D.takeWhile (cy x)).length):=lh (by
    rcases YI i (D.takeWhile (cy x)).length with h|h
    .have h2:=X.1 (by unfold cy at *;exact h);rw[t1,Bool.false_or,Bool.and_eq_true,decide_eq_true_eq] at h2;exact absurd h2 e5
    .omega)
   by_cases e2:D[i].1=x.1
   have t2:(D[i].1==x.1)=true:=Yy.2 e2
   have e4:bB (Ds.bl D[i].2.1) (Ds.bl x.2.1)=false:=by
    cases h:bB (Ds.bl D[i].2.1) (Ds.bl x.2.1)
    .rfl
    .exact absurd ⟨e2,h⟩ e5
   rw[e4] at t4;clear X e1 e2 e4 e5;rotate_left;have t2:(D[i].1==x.1)=false:=ZG.2 e2;clear X e1 e2 t4 e5
   all_goals
    go_wp2_with fail
    go_quiet (fail)
    go_upto_region 4 with fail
    generalize O:WB (WB W1 _) _=W;have a1:W.heap=W1.heap:=by rw[<-O];rfl
    have F:W.cell? ⟨w.heap.size,0,Z8⟩=Z9 (.int .i64 x.1):=by rw[<-O];exact N0
    have G:W.cell? ⟨w.heap.size,1,Z8⟩=Z9 (.string x.2.1):=by rw[<-O];exact N1
    have I:W.cell? ⟨w.heap.size,2,Z8⟩=Z9 (.string x.2.2):=by rw[<-O];exact N2
    have E:=lh (aV a3.o (fun x _=>by rw[a1]):W.ownsRow _ _ _ _ _ _);have B2:ZV w.heap.size w W:=by rw[<-O];exact (a2.o.trans (bdr _ _ _)).trans (bdr _ _ _)
    have z2:g<W.heap.size:=(ax E.o g rfl).2;have R:Hid ([]++rv (D.take i)++rv [(x.1,x.2.1,x.2.2)]++rv (D.drop i)=rv (cO x D)):=lh (by rw[uU,<-HI.o,fB,fB];simp);have Z:=lh B2;have zB:=B2.size;clear O a1 N0 N1 N2 a3 a2 B2;refine Xf (S:=fun w'=>ZV W.heap.size W w'/\w'.cell? ⟨w.heap.size,0,Z8⟩=Z9 (.int .i64 x.1)/\w'.cell? ⟨w.heap.size,1,Z8⟩=Z9 (.string x.2.1)/\w'.cell? ⟨w.heap.size,2,Z8⟩=Z9 (.string x.2.2)) (by kernel_rfl) ?_ (fun hHeld=>?_)
    .exact⟨X2 (ZM _ _),F,G,I⟩
    (refine rgy (i:=1) (Z9 43) ?_;(try simp only[Zu,pz]))
    (refine rgy (i:=2) (Z9 44) ?_;(try simp only[Zu,pz]))
    refine eq (i:=3) (Z9 45) (v:=.slice (Z9 ⟨g,0,Z8⟩) i f) rfl rfl (by kernel_rfl) (by kernel_rfl) (by kernel_rfl) (fun _ _ _ h=>h) (by kernel_rfl) (fun w a9=>?_) (by assumption) ?_
    .have sl:=nh (w:=w) (g:=g) i3 P.1;go_simp
    (try simp only[Zu,YW,Ye,Yd])
    (refine rgy (i:=5) (Z9 47) ?_;(try simp only[Zu,pz]))
    (refine rgy (i:=8) (Z9 50) ?_;(try simp only[Zu,pz]))
    (refine rgy (i:=9) (Z9 51) ?_;(try simp only[Zu,pz]))
    refine eq (i:=10) (Z9 52) (v:=.slice (Z9 ⟨g,dN f i,Z8⟩) (D.length - i) (f - i)) rfl rfl (by kernel_rfl) (by kernel_rfl) (by kernel_rfl) (fun _ _ _ h=>h) (by kernel_rfl) (fun w a9=>?_) (by assumption) ?_
    .have sl:=ni (w:=w) (g:=g) (c:=f) i3;go_simp
    (try simp only[Zu,YW,Ye,Yd])
    refine VM (rs:=[0,6]) (by kernel_rfl) (by simp) ?_
    refine Xg (o:=_) rfl (fun K p=>?_) (Xg (o:=_) rfl (fun K p=>?_) VR)
    .go_simp
     have A:ZV W.heap.size W (W.drew.alloc (.cells #[] 89)):=(X2 (ZM _ _)).alloc (by simp) _;refine p.out _ _ ⟨A,ai A F,ai A G,ai A I⟩ (fun hHeld=>?_)
     (clear p K;(try simp only[Zu,pz]))
     refine VM (rs:=[4,6]) (by kernel_rfl) (by simp) ?_
     refine Xg (o:=_) rfl (fun K p=>?_) (Xg (o:=_) rfl (fun K p=>?_) VR)
     .refine bU _ rfl (.tmp 42) (.tmp 45) 49 89 _ _ 3 40 (by rfl) Tryz.underlying49 bR bO bP bQ rfl (by decide) W.heap.size (.slice (Z9 ⟨W.heap.size,0,Z8⟩) 0 0) (.slice (Z9 ⟨g,0,Z8⟩) i f) 0 i [] (rv (D.take i)) (by simp [Yp]) (eP (w:=W.drew) rfl (ZS _)) (by simp [Yp]) ((gp E.o rfl i3).below A) (bM _) (by unfold X9;omega) (by omega) (by first|(simp;done)|(simp;omega)) ?_
      intro a5 c5 V t N _;have n:ZV W.heap.size W V:=A.grown N (by first|(simp;done)|(simp;omega)) (fun q u=>by have h2:W.heap.size=q:=(by simpa [WW] using u);omega);refine p.out _ _ ⟨n,ai n F,ai n G,ai n I⟩ (fun hHeld=>?_)
      (clear p K;(try simp only[Zu,pz]))
      refine rgb (i:=6) (by kernel_rfl) rfl (fun K p=>?_)
      go_simp
      have J:ZV W.heap.size W (V.alloc (.cells #[.int .i64 x.1,.string x.2.1,.string x.2.2] 89)):=n.alloc n.size _;refine p.out _ _ ⟨J,ai J F,ai J G,ai J I⟩ (fun hHeld=>?_)
      (clear p K;(try simp only[Zu,pz]))
      have Y:(V.alloc (.cells #[.int .i64 x.1,.string x.2.1,.string x.2.2] 89)).ownsRow _ _ _ _ _ _:=aV t (fun x hx=>(aj V _).block x (ax t x hx).2);have U:=eN V (x.1,x.2.1,x.2.2) 89 _ rfl;refine rgb (i:=7) (by kernel_rfl) rfl (fun K p=>?_)
      refine bU _ rfl (.tmp 46) (.tmp 48) 49 89 _ _ 3 40 (by rfl) Tryz.underlying49 bR bO bP bQ rfl (by decide) W.heap.size (.slice a5 (0+i) c5) (.slice (Z9 ⟨V.heap.size,0,Z8⟩) 1 1) (0+i) 1 _ (rv [(x.1,x.2.1,x.2.2)]) (by simp [Yp]) Y (by simp [Yp]) U (bM _) (by unfold X9;omega) (by omega) J.size ?_
      intro a7 c7 w7 k z _;have b:ZV W.heap.size W w7:=J.grown z J.size (fun q u=>(ax Y q u).1);refine p.out _ _ ⟨b,ai b F,ai b G,ai b I⟩ (fun hHeld=>?_)
      (clear p K;(try simp only[Zu,pz]))
      refine rgb (i:=11) (by kernel_rfl) rfl (fun K p=>?_)
      refine bU _ rfl (.tmp 49) (.tmp 52) 49 89 _ _ 3 40 (by rfl) Tryz.underlying49 bR bO bP bQ rfl (by decide) W.heap.size (.slice a7 (0+i+1) c7) (.slice (Z9 ⟨g,dN f i,Z8⟩) (D.length - i) (f - i)) (0+i+1) (D.length - i) _ (rv (D.drop i)) (by simp [Yp]) k (by simp [Yp]) ((gt E.o rfl P.1).below b) (bM _) (by unfold X9;omega) (by omega) b.size ?_
      intro a8 c8 w8 H C _;have s:ZV W.heap.size W w8:=b.grown C b.size (fun q u=>(ax k q u).1);rw[R.o] at H;generalize a0:0+i+1+(D.length - i)=L at H |-;obtain rfl:L=(cO x D).length:=by rw[eZ];omega
      obtain⟨g8,rfl,-,-⟩:=fa H (by rw[eZ];omega);refine p.out _ _ ⟨s,ai s F,ai s G,ai s I⟩ (fun hHeld=>?_)
      (clear p K;(try simp only[Zu,pz]))
      (refine rgy (i:=12) (Z9 4) ?_;(try simp only[Zu,pz]))
      refine WC (by kernel_rfl) ?_ _
      have T:=lh H;have Q:=lh s;clear k H z C hHeld b s;go_wp2_with fail
      repeat (rename_i oq dq u;obtain rfl:=ZR u;clear u)
      go_ret
      exact⟨g8,c8,rfl,ej T.o zB,Z.o.trans (Q.o.mono zB)⟩
     .go_simp
      have B:ZV W.heap.size W ((W.drew.alloc (.cells #[] 89)).alloc (.cells #[.int .i64 x.1,.string x.2.1,.string x.2.2] 89)):=A.alloc (by simp) _;refine p.out _ _ ⟨B,ai B F,ai B G,ai B I⟩ (fun hHeld=>?_)
      (clear p K;(try simp only[Zu,pz]))
      refine rgb (i:=4) (by kernel_rfl) rfl (fun K p=>?_)
      refine bU _ rfl (.tmp 42) (.tmp 45) 49 89 _ _ 3 40 (by rfl) Tryz.underlying49 bR bO bP bQ rfl (by decide) W.heap.size (.slice (Z9 ⟨W.heap.size,0,Z8⟩) 0 0) (.slice (Z9 ⟨g,0,Z8⟩) i f) 0 i [] (rv (D.take i)) (by simp [Yp]) (aV (eP (w:=W.drew) rfl (ZS _)) (fun x hx=>(aj (W.drew.alloc (.cells #[] 89)) _).block x (by have aa:W.heap.size=x:=(by simpa [WW] using hx);simp [<-aa]))) (by simp [Yp]) ((gp E.o rfl i3).below B) (bM _) (by unfold X9;omega) (by omega) (by first|(simp;done)|(simp;omega)) ?_
      intro a5 c5 V t N _;have n:ZV W.heap.size W V:=B.grown N (by first|(simp;done)|(simp;omega)) (fun q u=>by have h2:W.heap.size=q:=(by simpa [WW] using u);omega);have U:=(eN (W.drew.alloc (.cells #[] 89)) (x.1,x.2.1,x.2.2) 89 (W.heap.size+1) (by simp)).grown N (by intro e;have e2:W.heap.size+1=W.heap.size:=ZR e;omega) (by first|(simp;done)|(simp;omega));refine p.out _ _ ⟨n,ai n F,ai n G,ai n I⟩ (fun hHeld=>?_)
      (clear p K;(try simp only[Zu,pz]))
      refine rgb (i:=7) (by kernel_rfl) rfl (fun K p=>?_)
      refine bU _ rfl (.tmp 46) (.tmp 48) 49 89 _ _ 3 40 (by rfl) Tryz.underlying49 bR bO bP bQ rfl (by decide) W.heap.size (.slice a5 (0+i) c5) (.slice (Z9 ⟨W.heap.size+1,0,Z8⟩) 1 1) (0+i) 1 _ (rv [(x.1,x.2.1,x.2.2)]) (by simp [Yp]) t (by simp [Yp]) U (bM _) (by unfold X9;omega) (by omega) n.size ?_
      intro a7 c7 w7 k z _;have b:ZV W.heap.size W w7:=n.grown z n.size (fun q u=>(ax t q u).1);refine p.out _ _ ⟨b,ai b F,ai b G,ai b I⟩ (fun hHeld=>?_)
      (clear p K;(try simp only[Zu,pz]))
      refine rgb (i:=11) (by kernel_rfl) rfl (fun K p=>?_)
      refine bU _ rfl (.tmp 49) (.tmp 52) 49 89 _ _ 3 40 (by rfl) Tryz.underlying49 bR bO bP bQ rfl (by decide) W.heap.size (.slice a7 (0+i+1) c7) (.slice (Z9 ⟨g,dN f i,Z8⟩) (D.length - i) (f - i)) (0+i+1) (D.length - i) _ (rv (D.drop i)) (by simp [Yp]) k (by simp [Yp]) ((gt E.o rfl P.1).below b) (bM _) (by unfold X9;omega) (by omega) b.size ?_
      intro a8 c8 w8 H C _;have s:ZV W.heap.size W w8:=b.grown C b.size (fun q u=>(ax k q u).1);rw[R.o] at H;generalize a0:0+i+1+(D.length - i)=L at H |-;obtain rfl:L=(cO x D).length:=by rw[eZ];omega
      obtain⟨g8,rfl,-,-⟩:=fa H (by rw[eZ];omega);refine p.out _ _ ⟨s,ai s F,ai s G,ai s I⟩ (fun hHeld=>?_)
      (clear p K;(try simp only[Zu,pz]))
      (refine rgy (i:=12) (Z9 4) ?_;(try simp only[Zu,pz]))
      refine WC (by kernel_rfl) ?_ _
      have T:=lh H;have Q:=lh s;clear k H z C hHeld b s;go_wp2_with fail
      repeat (rename_i oq dq u;obtain rfl:=ZR u;clear u)
      go_ret
      exact⟨g8,c8,rfl,ej T.o zB,Z.o.trans (Q.o.mono zB)⟩
    .go_simp
     have A:ZV W.heap.size W (W.drew.alloc (.cells #[.int .i64 x.1,.string x.2.1,.string x.2.2] 89)):=(X2 (ZM _ _)).alloc (by simp) _;refine p.out _ _ ⟨A,ai A F,ai A G,ai A I⟩ (fun hHeld=>?_)
     (clear p K;(try simp only[Zu,pz]))
     refine rgb (i:=0) (by kernel_rfl) rfl (fun K p=>?_)
     go_simp
     have B:ZV W.heap.size W ((W.drew.alloc (.cells #[.int .i64 x.1,.string x.2.1,.string x.2.2] 89)).alloc (.cells #[] 89)):=A.alloc (by simp) _;refine p.out _ _ ⟨B,ai B F,ai B G,ai B I⟩ (fun hHeld=>?_)
     (clear p K;(try simp only[Zu,pz]))
     refine rgb (i:=4) (by kernel_rfl) rfl (fun K p=>?_)
     refine bU _ rfl (.tmp 42) (.tmp 45) 49 89 _ _ 3 40 (by rfl) Tryz.underlying49 bR bO bP bQ rfl (by decide) W.heap.size (.slice (Z9 ⟨W.heap.size+1,0,Z8⟩) 0 0) (.slice (Z9 ⟨g,0,Z8⟩) i f) 0 i [] (rv (D.take i)) (by simp [Yp]) (eP (w:=(W.drew.alloc (.cells #[.int .i64 x.1,.string x.2.1,.string x.2.2] 89))) (by simp) (by omega)) (by simp [Yp]) ((gp E.o rfl i3).below B) (bM _) (by unfold X9;omega) (by omega) (by first|(simp;done)|(simp;omega)) ?_
     intro a5 c5 V t N _;have n:ZV W.heap.size W V:=B.grown N (by first|(simp;done)|(simp;omega)) (fun q u=>by have h2:W.heap.size+1=q:=(by simpa [WW] using u);omega);have U:=((eN W.drew (x.1,x.2.1,x.2.2) 89 W.heap.size rfl).below (aj _ (.cells #[] 89))).grown N (by intro e;have e2:W.heap.size=W.heap.size+1:=ZR e;omega) (by first|(simp;done)|(simp;omega));refine p.out _ _ ⟨n,ai n F,ai n G,ai n I⟩ (fun hHeld=>?_)
     (clear p K;(try simp only[Zu,pz]))
     refine rgb (i:=7) (by kernel_rfl) rfl (fun K p=>?_)
     refine bU _ rfl (.tmp 46) (.tmp 48) 49 89 _ _ 3 40 (by rfl) Tryz.underlying49 bR bO bP bQ rfl (by decide) W.heap.size (.slice a5 (0+i) c5) (.slice (Z9 ⟨W.heap.size,0,Z8⟩) 1 1) (0+i) 1 _ (rv [(x.1,x.2.1,x.2.2)]) (by simp [Yp]) t (by simp [Yp]) U (bM _) (by unfold X9;omega) (by omega) n.size ?_
     intro a7 c7 w7 k z _;have b:ZV W.heap.size W w7:=n.grown z n.size (fun q u=>(ax t q u).1);refine p.out _ _ ⟨b,ai b F,ai b G,ai b I⟩ (fun hHeld=>?_)
     (clear p K;(try simp only[Zu,pz]))
     refine rgb (i:=11) (by kernel_rfl) rfl (fun K p=>?_)
     refine bU _ rfl (.tmp 49) (.tmp 52) 49 89 _ _ 3 40 (by rfl) Tryz.underlying49 bR bO bP bQ rfl (by decide) W.heap.size (.slice a7 (0+i+1) c7) (.slice (Z9 ⟨g,dN f i,Z8⟩) (D.length - i) (f - i)) (0+i+1) (D.length - i) _ (rv (D.drop i)) (by simp [Yp]) k (by simp [Yp]) ((gt E.o rfl P.1).below b) (bM _) (by unfold X9;omega) (by omega) b.size ?_
     intro a8 c8 w8 H C _;have s:ZV W.heap.size W w8:=b.grown C b.size (fun q u=>(ax k q u).1);rw[R.o] at H;generalize a0:0+i+1+(D.length - i)=L at H |-;obtain rfl:L=(cO x D).length:=by rw[eZ];omega
     obtain⟨g8,rfl,-,-⟩:=fa H (by rw[eZ];omega);refine p.out _ _ ⟨s,ai s F,ai s G,ai s I⟩ (fun hHeld=>?_)
     (clear p K;(try simp only[Zu,pz]))
     (refine rgy (i:=12) (Z9 4) ?_;(try simp only[Zu,pz]))
     refine WC (by kernel_rfl) ?_ _
     have T:=lh H;have Q:=lh s;clear k H z C hHeld b s;go_wp2_with fail
     repeat (rename_i oq dq u;obtain rfl:=ZR u;clear u)
     go_ret
     exact⟨g8,c8,rfl,ej T.o zB,Z.o.trans (Q.o.mono zB)⟩
  .have HI:Hid (i=(D.takeWhile (cy x)).length):=lh (by omega);have i3:i<=D.length:=by omega
   have i4:¬ (i:Int)<(D.length:Int):=by omega
   go_wp2_with fail
   go_quiet (fail)
   go_upto_region 4 with fail
   generalize O:WB (WB W1 _) _=W;have a1:W.heap=W1.heap:=by rw[<-O];rfl
   have F:W.cell? ⟨w.heap.size,0,Z8⟩=Z9 (.int .i64 x.1):=by rw[<-O];exact N0
   have G:W.cell? ⟨w.heap.size,1,Z8⟩=Z9 (.string x.2.1):=by rw[<-O];exact N1
   have I:W.cell? ⟨w.heap.size,2,Z8⟩=Z9 (.string x.2.2):=by rw[<-O];exact N2
   have E:=lh (aV a3.o (fun x _=>by rw[a1]):W.ownsRow _ _ _ _ _ _);have B2:ZV w.heap.size w W:=by rw[<-O];exact (a2.o.trans (bdr _ _ _)).trans (bdr _ _ _)
   have z2:g<W.heap.size:=(ax E.o g rfl).2;have R:Hid ([]++rv (D.take i)++rv [(x.1,x.2.1,x.2.2)]++rv (D.drop i)=rv (cO x D)):=lh (by rw[uU,<-HI.o,fB,fB];simp);have Z:=lh B2;have zB:=B2.size;clear O a1 N0 N1 N2 a3 a2 B2;refine Xf (S:=fun w'=>ZV W.heap.size W w'/\w'.cell? ⟨w.heap.size,0,Z8⟩=Z9 (.int .i64 x.1)/\w'.cell? ⟨w.heap.size,1,Z8⟩=Z9 (.string x.2.1)/\w'.cell? ⟨w.heap.size,2,Z8⟩=Z9 (.string x.2.2)) (by kernel_rfl) ?_ (fun hHeld=>?_)
   .exact⟨X2 (ZM _ _),F,G,I⟩
   (refine rgy (i:=1) (Z9 43) ?_;(try simp only[Zu,pz]))
   (refine rgy (i:=2) (Z9 44) ?_;(try simp only[Zu,pz]))
   refine eq (i:=3) (Z9 45) (v:=.slice (Z9 ⟨g,0,Z8⟩) i f) rfl rfl (by kernel_rfl) (by kernel_rfl) (by kernel_rfl) (fun _ _ _ h=>h) (by kernel_rfl) (fun w a9=>?_) (by assumption) ?_
   .have sl:=nh (w:=w) (g:=g) i3 P.1;go_simp
   (try simp only[Zu,YW,Ye,Yd])
   (refine rgy (i:=5) (Z9 47) ?_;(try simp only[Zu,pz]))
   (refine rgy (i:=8) (Z9 50) ?_;(try simp only[Zu,pz]))
   (refine rgy (i:=9) (Z9 51) ?_;(try simp only[Zu,pz]))
   refine eq (i:=10) (Z9 52) (v:=.slice (Z9 ⟨g,dN f i,Z8⟩) (D.length - i) (f - i)) rfl rfl (by kernel_rfl) (by kernel_rfl) (by kernel_rfl) (fun _ _ _ h=>h) (by kernel_rfl) (fun w a9=>?_) (by assumption) ?_
   .have sl:=ni (w:=w) (g:=g) (c:=f) i3;go_simp
   (try simp only[Zu,YW,Ye,Yd])
   refine VM (rs:=[0,6]) (by kernel_rfl) (by simp) ?_
   refine Xg (o:=_) rfl (fun K p=>?_) (Xg (o:=_) rfl (fun K p=>?_) VR)
   .go_simp
    have A:ZV W.heap.size W (W.drew.alloc (.cells #[] 89)):=(X2 (ZM _ _)).alloc (by simp) _;refine p.out _ _ ⟨A,ai A F,ai A G,ai A I⟩ (fun hHeld=>?_)
    (clear p K;(try simp only[Zu,pz]))
    refine VM (rs:=[4,6]) (by kernel_rfl) (by simp) ?_
    refine Xg (o:=_) rfl (fun K p=>?_) (Xg (o:=_) rfl (fun K p=>?_) VR)
    .refine bU _ rfl (.tmp 42) (.tmp 45) 49 89 _ _ 3 40 (by rfl) Tryz.underlying49 bR bO bP bQ rfl (by decide) W.heap.size (.slice (Z9 ⟨W.heap.size,0,Z8⟩) 0 0) (.slice (Z9 ⟨g,0,Z8⟩) i f) 0 i [] (rv (D.take i)) (by simp [Yp]) (eP (w:=W.drew) rfl (ZS _)) (by simp [Yp]) ((gp E.o rfl i3).below A) (bM _) (by unfold X9;omega) (by omega) (by first|(simp;done)|(simp;omega)) ?_
     intro a5 c5 V t N _;have n:ZV W.heap.size W V:=A.grown N (by first|(simp;done)|(simp;omega)) (fun q u=>by have h2:W.heap.size=q:=(by simpa [WW] using u);omega);refine p.out _ _ ⟨n,ai n F,ai n G,ai n I⟩ (fun hHeld=>?_)
     (clear p K;(try simp only[Zu,pz]))
     refine rgb (i:=6) (by kernel_rfl) rfl (fun K p=>?_)
     go_simp
     have J:ZV W.heap.size W (V.alloc (.cells #[.int .i64 x.1,.string x.2.1,.string x.2.2] 89)):=n.alloc n.size _;refine p.out _ _ ⟨J,ai J F,ai J G,ai J I⟩ (fun hHeld=>?_)
     (clear p K;(try simp only[Zu,pz]))
     have Y:(V.alloc (.cells #[.int .i64 x.1,.string x.2.1,.string x.2.2] 89)).ownsRow _ _ _ _ _ _:=aV t (fun x hx=>(aj V _).block x (ax t x hx).2);have U:=eN V (x.1,x.2.1,x.2.2) 89 _ rfl;refine rgb (i:=7) (by kernel_rfl) rfl (fun K p=>?_)
     refine bU _ rfl (.tmp 46) (.tmp 48) 49 89 _ _ 3 40 (by rfl) Tryz.underlying49 bR bO bP bQ rfl (by decide) W.heap.size (.slice a5 (0+i) c5) (.slice (Z9 ⟨V.heap.size,0,Z8⟩) 1 1) (0+i) 1 _ (rv [(x.1,x.2.1,x.2.2)]) (by simp [Yp]) Y (by simp [Yp]) U (bM _) (by unfold X9;omega) (by omega) J.size ?_
     intro a7 c7 w7 k z _;have b:ZV W.heap.size W w7:=J.grown z J.size (fun q u=>(ax Y q u).1);refine p.out _ _ ⟨b,ai b F,ai b G,ai b I⟩ (fun hHeld=>?_)
     (clear p K;(try simp only[Zu,pz]))
     refine rgb (i:=11) (by kernel_rfl) rfl (fun K p=>?_)
     refine bU _ rfl (.tmp 49) (.tmp 52) 49 89 _ _ 3 40 (by rfl) Tryz.underlying49 bR bO bP bQ rfl (by decide) W.heap.size (.slice a7 (0+i+1) c7) (.slice (Z9 ⟨g,dN f i,Z8⟩) (D.length - i) (f - i)) (0+i+1) (D.length - i) _ (rv (D.drop i)) (by simp [Yp]) k (by simp [Yp]) ((gt E.o rfl P.1).below b) (bM _) (by unfold X9;omega) (by omega) b.size ?_
     intro a8 c8 w8 H C _;have s:ZV W.heap.size W w8:=b.grown C b.size (fun q u=>(ax k q u).1);rw[R.o] at H;generalize a0:0+i+1+(D.length - i)=L at H |-;obtain rfl:L=(cO x D).length:=by rw[eZ];omega
     obtain⟨g8,rfl,-,-⟩:=fa H (by rw[eZ];omega);refine p.out _ _ ⟨s,ai s F,ai s G,ai s I⟩ (fun hHeld=>?_)
     (clear p K;(try simp only[Zu,pz]))
     (refine rgy (i:=12) (Z9 4) ?_;(try simp only[Zu,pz]))
     refine WC (by kernel_rfl) ?_ _
     have T:=lh H;have Q:=lh s;clear k H z C hHeld b s;go_wp2_with fail
     repeat (rename_i oq dq u;obtain rfl:=ZR u;clear u)
     go_ret
     exact⟨g8,c8,rfl,ej T.o zB,Z.o.trans (Q.o.mono zB)⟩
    .go_simp
     have B:ZV W.heap.size W ((W.drew.alloc (.cells #[] 89)).alloc (.cells #[.int .i64 x.1,.string x.2.1,.string x.2.2] 89)):=A.alloc (by simp) _;refine p.out _ _ ⟨B,ai B F,ai B G,ai B I⟩ (fun hHeld=>?_)
     (clear p K;(try simp only[Zu,pz]))
     refine rgb (i:=4) (by kernel_rfl) rfl (fun K p=>?_)
     refine bU _ rfl (.tmp 42) (.tmp 45) 49 89 _ _ 3 40 (by rfl) Tryz.underlying49 bR bO bP bQ rfl (by decide) W.heap.size (.slice (Z9 ⟨W.heap.size,0,Z8⟩) 0 0) (.slice (Z9 ⟨g,0,Z8⟩) i f) 0 i [] (rv (D.take i)) (by simp [Yp]) (aV (eP (w:=W.drew) rfl (ZS _)) (fun x hx=>(aj (W.drew.alloc (.cells #[] 89)) _).block x (by have aa:W.heap.size=x:=(by simpa [WW] using hx);simp [<-aa]))) (by simp [Yp]) ((gp E.o rfl i3).below B) (bM _) (by unfold X9;omega) (by omega) (by first|(simp;done)|(simp;omega)) ?_
     intro a5 c5 V t N _;have n:ZV W.heap.size W V:=B.grown N (by first|(simp;done)|(simp;omega)) (fun q u=>by have h2:W.heap.size=q:=(by simpa [WW] using u);omega);have U:=(eN (W.drew.alloc (.cells #[] 89)) (x.1,x.2.1,x.2.2) 89 (W.heap.size+1) (by simp)).grown N (by intro e;have e2:W.heap.size+1=W.heap.size:=ZR e;omega) (by first|(simp;done)|(simp;omega));refine p.out _ _ ⟨n,ai n F,ai n G,ai n I⟩ (fun hHeld=>?_)
     (clear p K;(try simp only[Zu,pz]))
     refine rgb (i:=7) (by kernel_rfl) rfl (fun K p=>?_)
     refine bU _ rfl (.tmp 46) (.tmp 48) 49 89 _ _ 3 40 (by rfl) Tryz.underlying49 bR bO bP bQ rfl (by decide) W.heap.size (.slice a5 (0+i) c5) (.slice (Z9 ⟨W.heap.size+1,0,Z8⟩) 1 1) (0+i) 1 _ (rv [(x.1,x.2.1,x.2.2)]) (by simp [Yp]) t (by simp [Yp]) U (bM _) (by unfold X9;omega) (by omega) n.size ?_
     intro a7 c7 w7 k z _;have b:ZV W.heap.size W w7:=n.grown z n.size (fun q u=>(ax t q u).1);refine p.out _ _ ⟨b,ai b F,ai b G,ai b I⟩ (fun hHeld=>?_)
     (clear p K;(try simp only[Zu,pz]))
     refine rgb (i:=11) (by kernel_rfl) rfl (fun K p=>?_)
     refine bU _ rfl (.tmp 49) (.tmp 52) 49 89 _ _ 3 40 (by rfl) Tryz.underlying49 bR bO bP bQ rfl (by decide) W.heap.size (.slice a7 (0+i+1) c7) (.slice (Z9 ⟨g,dN f i,Z8⟩) (D.length - i) (f - i)) (0+i+1) (D.length - i) _ (rv (D.drop i)) (by simp [Yp]) k (by simp [Yp]) ((gt E.o rfl P.1).below b) (bM _) (by unfold X9;omega) (by omega) b.size ?_
     intro a8 c8 w8 H C _;have s:ZV W.heap.size W w8:=b.grown C b.size (fun q u=>(ax k q u).1);rw[R.o] at H;generalize a0:0+i+1+(D.length - i)=L at H |-;obtain rfl:L=(cO x D).length:=by rw[eZ];omega
     obtain⟨g8,rfl,-,-⟩:=fa H (by rw[eZ];omega);refine p.out _ _ ⟨s,ai s F,ai s G,ai s I⟩ (fun hHeld=>?_)
     (clear p K;(try simp only[Zu,pz]))
     (refine rgy (i:=12) (Z9 4) ?_;(try simp only[Zu,pz]))
     refine WC (by kernel_rfl) ?_ _
     have T:=lh H;have Q:=lh s;clear k H z C hHeld b s;go_wp2_with fail
     repeat (rename_i oq dq u;obtain rfl:=ZR u;clear u)
     go_ret
     exact⟨g8,c8,rfl,ej T.o zB,Z.o.trans (Q.o.mono zB)⟩
   .go_simp
    have A:ZV W.heap.size W (W.drew.alloc (.cells #[.int .i64 x.1,.string x.2.1,.string x.2.2] 89)):=(X2 (ZM _ _)).alloc (by simp) _;refine p.out _ _ ⟨A,ai A F,ai A G,ai A I⟩ (fun hHeld=>?_)
    (clear p K;(try simp only[Zu,pz]))
    refine rgb (i:=0) (by kernel_rfl) rfl (fun K p=>?_)
    go_simp
    have B:ZV W.heap.size W ((W.drew.alloc (.cells #[.int .i64 x.1,.string x.2.1,.string x.2.2] 89)).alloc (.cells #[] 89)):=A.alloc (by simp) _;refine p.out _ _ ⟨B,ai B F,ai B G,ai B I⟩ (fun hHeld=>?_)
    (clear p K;(try simp only[Zu,pz]))
    refine rgb (i:=4) (by kernel_rfl) rfl (fun K p=>?_)
    refine bU _ rfl (.tmp 42) (.tmp 45) 49 89 _ _ 3 40 (by rfl) Tryz.underlying49 bR bO bP bQ rfl (by decide) W.heap.size (.slice (Z9 ⟨W.heap.size+1,0,Z8⟩) 0 0) (.slice (Z9 ⟨g,0,Z8⟩) i f) 0 i [] (rv (D.take i)) (by simp [Yp]) (eP (w:=(W.drew.alloc (.cells #[.int .i64 x.1,.string x.2.1,.string x.2.2] 89))) (by simp) (by omega)) (by simp [Yp]) ((gp E.o rfl i3).below B) (bM _) (by unfold X9;omega) (by omega) (by first|(simp;done)|(simp;omega)) ?_
    intro a5 c5 V t N _;have n:ZV W.heap.size W V:=B.grown N (by first|(simp;done)|(simp;omega)) (fun q u=>by have h2:W.heap.size+1=q:=(by simpa [WW] using u);omega);have U:=((eN W.drew (x.1,x.2.1,x.2.2) 89 W.heap.size rfl).below (aj _ (.cells #[] 89))).grown N (by intro e;have e2:W.heap.size=W.heap.size+1:=ZR e;omega) (by first|(simp;done)|(simp;omega));refine p.out _ _ ⟨n,ai n F,ai n G,ai n I⟩ (fun hHeld=>?_)
    (clear p K;(try simp only[Zu,pz]))
    refine rgb (i:=7) (by kernel_rfl) rfl (fun K p=>?_)
    refine bU _ rfl (.tmp 46) (.tmp 48) 49 89 _ _ 3 40 (by rfl) Tryz.underlying49 bR bO bP bQ rfl (by decide) W.heap.size (.slice a5 (0+i) c5) (.slice (Z9 ⟨W.heap.size,0,Z8⟩) 1 1) (0+i) 1 _ (rv [(x.1,x.2.1,x.2.2)]) (by simp [Yp]) t (by simp [Yp]) U (bM _) (by unfold X9;omega) (by omega) n.size ?_
    intro a7 c7 w7 k z _;have b:ZV W.heap.size W w7:=n.grown z n.size (fun q u=>(ax t q u).1);refine p.out _ _ ⟨b,ai b F,ai b G,ai b I⟩ (fun hHeld=>?_)
    (clear p K;(try simp only[Zu,pz]))
    refine rgb (i:=11) (by kernel_rfl) rfl (fun K p=>?_)
    refine bU _ rfl (.tmp 49) (.tmp 52) 49 89 _ _ 3 40 (by rfl) Tryz.underlying49 bR bO bP bQ rfl (by decide) W.heap.size (.slice a7 (0+i+1) c7) (.slice (Z9 ⟨g,dN f i,Z8⟩) (D.length - i) (f - i)) (0+i+1) (D.length - i) _ (rv (D.drop i)) (by simp [Yp]) k (by simp [Yp]) ((gt E.o rfl P.1).below b) (bM _) (by unfold X9;omega) (by omega) b.size ?_
    intro a8 c8 w8 H C _;have s:ZV W.heap.size W w8:=b.grown C b.size (fun q u=>(ax k q u).1);rw[R.o] at H;generalize a0:0+i+1+(D.length - i)=L at H |-;obtain rfl:L=(cO x D).length:=by rw[eZ];omega
    obtain⟨g8,rfl,-,-⟩:=fa H (by rw[eZ];omega);refine p.out _ _ ⟨s,ai s F,ai s G,ai s I⟩ (fun hHeld=>?_)
    (clear p K;(try simp only[Zu,pz]))
    (refine rgy (i:=12) (Z9 4) ?_;(try simp only[Zu,pz]))
    refine WC (by kernel_rfl) ?_ _
    have T:=lh H;have Q:=lh s;clear k H z C hHeld b s;go_wp2_with fail
    repeat (rename_i oq dq u;obtain rfl:=ZR u;clear u)
    go_ret
    exact⟨g8,c8,rfl,ej T.o zB,Z.o.trans (Q.o.mono zB)⟩
end
section
open Go.RowKit
theorem Dr{c:Ch}(h:c.1=0):eJ D c=cO (c.2.1,c.2.2.1,c.2.2.2.1) (cD c D):=if_pos h
theorem Dp{c:Ch}(h:¬ c.1=0):eJ D c=cD c D:=Z0 h
theorem AY(aa:Value)(E:Z5 Ch)(w:World)(hR:RwS w m d)(hC:ChS w aa E)(h1:d.length<=1000)(h2:E.length<=1000) :
 Calls Tryz.prog 29 #[m,aa] w fun r w'=>∃ v',r=.returned v'/\RwS w' v' (apl d E)/\(∀ q,v'.ownBlock=Z9 q->w.heap.size<=q/\q<w'.heap.size)/\ZV w.heap.size w w':=by
 obtain⟨a,c,rfl,-,hc⟩:=hR;obtain⟨ca,cc,rfl,-,ac⟩:=hC;have HR:=lh hc;have HC:=lh ac;clear hc ac;go_enter Tryz.func29,Tryz.ntmps29
 go_wp2_with fail
 go_loopw [5,6] (fun v i wr=>∃ (k g f:Nat),k<=d.length/\i=.int .i64 k/\v=.slice (Z9 ⟨g,0,Z8⟩) (eA (d.take k)).length f/\wr.ownsRow w.heap.size 89 3 (.slice (Z9 ⟨g,0,Z8⟩) (eA (d.take k)).length f) (eA (d.take k)).length (rv (eA (d.take k)))/\ZV w.heap.size w wr) (fun _ i _=>d.length - (Y4 i).toNat)
 case atStart=>exact⟨0,w.heap.size,0,Y7 _,rfl,rfl,World.ownsRow_made w #[] 0 (ZS _) (Y7 _) rfl,by exact aB⟩
 case round =>
  obtain⟨k,g,f,hk,rfl,rfl,H,B⟩:=hrel;have z0:=B.size;have P:=lh B;clear B;by_cases O:k<d.length
  .obtain⟨b,o,rfl,hb,n⟩:=HR.o (by omega);obtain⟨q0,q1,q2⟩:=n k O;have p0:=(P.o.cell hb).trans q0;have p1:=(P.o.cell hb).trans q1;have p2:=(P.o.cell hb).trans q2;have j1:(0:Int)<=(k:Int):=by omega
   have j2:(k:Int)<(d.length:Int):=by omega
   have Y:=vk g f w.heap.size (eA (d.take k)) d[k] wr H (by rw[rG,YH];omega);have F:cO d[k] (eA (d.take k))=eA (d.take (k+1)):=by rw[ZB O,yg]
   rw[F] at Y;have a4:=lh Y;clear Y F n q0 q1 q2 H;go_wp2_with (go_at_call 73;(refine a4.o.mono ?_);rintro _ w2 ⟨g',c',rfl,ho,a0⟩;have z:=lh ho;have L:=lh a0;clear ho a0)
   go_roundw
   case rel=>exact⟨k+1,g',c',by omega,by go_num,rfl,ej z.o z0,bt P.o L.o⟩
   case measure=>simp [Y4];omega
  .obtain rfl:k=d.length:=by omega
   have e0:eA (d.take d.length)=apl d (E.take 0):=by rw[ZC (ZS _)];rfl
   rw[e0] at H |-;have HO:=lh H;clear H e0;go_wp2_with fail
   go_loopw [5,7] (fun v i wr=>∃ (k g f:Nat),k<=E.length/\i=.int .i64 k/\v=.slice (Z9 ⟨g,0,Z8⟩) (apl d (E.take k)).length f/\wr.ownsRow w.heap.size 89 3 (.slice (Z9 ⟨g,0,Z8⟩) (apl d (E.take k)).length f) (apl d (E.take k)).length (rv (apl d (E.take k)))/\ZV w.heap.size w wr) (fun _ i _=>E.length - (Y4 i).toNat)
   case atStart=>exact⟨0,g,f,Y7 _,rfl,rfl,HO.o,P.o⟩
   case round =>
    clear HO P z0;obtain⟨k,g,f,hk,rfl,rfl,H,B⟩:=hrel;have z0:=B.size;have P:=lh B;clear B;by_cases O:k<E.length
    .obtain⟨b,o,rfl,hb,n⟩:=HC.o (by omega);have p0:wr.cell? ⟨b,o+k*5,Z8⟩=Z9 (.int .i64 E[k].1):=(P.o.cell (p:=⟨b,o+k*5,Z8⟩) hb).trans (n k O 0 _ rfl);have p1:wr.cell? ⟨b,o+k*5+1,Z8⟩=Z9 (.int .i64 E[k].2.1):=(P.o.cell (p:=⟨b,o+k*5+1,Z8⟩) hb).trans (n k O 1 _ rfl);have p2:wr.cell? ⟨b,o+k*5+2,Z8⟩=Z9 (.string E[k].2.2.1):=(P.o.cell (p:=⟨b,o+k*5+2,Z8⟩) hb).trans (n k O 2 _ rfl);have p3:wr.cell? ⟨b,o+k*5+3,Z8⟩=Z9 (.string E[k].2.2.2.1):=(P.o.cell (p:=⟨b,o+k*5+3,Z8⟩) hb).trans (n k O 3 _ rfl);have a3:b<wr.heap.size:=by omega
     have j1:(0:Int)<=(k:Int):=by omega
     have j2:(k:Int)<(E.length:Int):=by omega
     have F:apl d (E.take (k+1))=eJ (apl d (E.take k)) E[k]:=by rw[ZB O,AG]
     have af:=pt d (E.take k);have b0:(E.take k).length<=k:=by rw[YH];omega
     have a2:=lh F;clear F n;generalize apl d (E.take k)=D at H a2 af |-;generalize E[k]=x at p0 p1 p2 p3 a2;obtain⟨A,X,u,C,I⟩:=x;dsimp only at p0 p1 p2 p3;have a9:g<wr.heap.size:=(ax H g rfl).2
     have ab:∀ j (h:j<D.length),wr.cell? ⟨g,j*3,Z8⟩=Z9 (.int .i64 D[j].1)/\wr.cell? ⟨g,j*3+1,Z8⟩=Z9 (.string D[j].2.1)/\wr.cell? ⟨g,j*3+2,Z8⟩=Z9 (.string D[j].2.2):=fun j h=>by
      have:=((jX (by omega) (dU H)):RwS _ _ D);obtain⟨a',c',e,-,hp⟩:=this;obtain⟨b',o',rfl,-,hq⟩:=hp (by omega);cases e
      have q:=hq j h;rw[YE] at q;exact q
     have al:=lh ab;clear ab H;obtain⟨G,ar⟩:∃ G,G=wr:=⟨_,rfl⟩;subst ar;go_wp2_with fail
     go_loopw [8,9] (fun r j wr=>∃ (i U V:Nat),i<=D.length/\j=.int .i64 i/\r=.slice (Z9 ⟨U,0,Z8⟩) (cD (A,X,u,C,I) (D.take i)).length V/\wr.ownsRow G.heap.size 89 3 (.slice (Z9 ⟨U,0,Z8⟩) (cD (A,X,u,C,I) (D.take i)).length V) (cD (A,X,u,C,I) (D.take i)).length (rv (cD (A,X,u,C,I) (D.take i)))/\ZV G.heap.size G wr) (fun _ j _=>D.length - (Y4 j).toNat)
     case atStart=>exact⟨0,G.heap.size,0,Y7 _,rfl,rfl,eP rfl (ZS _),by exact aB⟩
     case round =>
      obtain⟨i,U,V,hi,rfl,rfl,hr,Bx⟩:=hrel;have zx:=Bx.size;have R:=lh hr;have N:=lh Bx;have ao:=rH (A,X,u,C,I) (D.take i);have b1:(D.take i).length<=D.length:=by rw[YH];omega
      have r0:=(Bx.cell (p:=⟨b,o+k*5,Z8⟩) a3).trans p0;have r1:=(Bx.cell (p:=⟨b,o+k*5+1,Z8⟩) a3).trans p1;have r2:=(Bx.cell (p:=⟨b,o+k*5+2,Z8⟩) a3).trans p2;have r3:=(Bx.cell (p:=⟨b,o+k*5+3,Z8⟩) a3).trans p3;clear hr Bx;by_cases ad:i<D.length
      .obtain⟨d0,d1,d2⟩:=al.o i ad;have s0:=(N.o.cell (p:=⟨g,i*3,Z8⟩) a9).trans d0;have s1:=(N.o.cell (p:=⟨g,i*3+1,Z8⟩) a9).trans d1;have s2:=(N.o.cell (p:=⟨g,i*3+2,Z8⟩) a9).trans d2;clear d0 d1 d2;have i1:(0:Int)<=(i:Int):=by omega
       have i2:(i:Int)<(D.length:Int):=by omega
       have F:=yi (c:=(A,X,u,C,I)) ad;have t2:=fd D[i].2.1 u;by_cases e1:D[i].1=X
       .have t1:(D[i].1 != X)=false:=by rw[e1];simp
        have av:(D[i].1==X)=true:=Yy.2 e1;by_cases e2:D[i].2.1=u
        .rw[ZL e2] at t2;have Q:=lh (F.trans (if_pos (by unfold jL;rw[ZL e1,ZL e2];rfl)));clear e1 e2 F;go_wp2_with fail
         go_quiet (fail)
         generalize s:WB wr _=J;have L:Hid (ZV G.heap.size G J):=lh (by rw[<-s];exact N.o.trans (bdr _ _ _));have z:=lh (aV R.o (fun y _=>by rw[<-s];rfl):J.ownsRow G.heap.size 89 3 (.slice (Z9 ⟨U,0,Z8⟩) (cD (A,X,u,C,I) (D.take i)).length V) _ _);go_wp2_with fail
         go_roundw
         case rel=>exact⟨i+1,U,V,by omega,by go_num,by rw[Q.o],by rw[Q.o];exact z.o,L.o⟩
         case measure=>simp [Y4];omega
        .rw[ZF e2] at t2;have Q:=lh (F.trans (Z0 (by unfold jL;rw[ZF e2];simp)));clear e1 e2 F;go_wp2_with fail;go_quiet (fail);generalize s:WB wr _=J;have L:Hid (ZV G.heap.size G J):=lh (by rw[<-s];exact N.o.trans (bdr _ _ _));have z:=lh (aV R.o (fun y _=>by rw[<-s];rfl):J.ownsRow G.heap.size 89 3 (.slice (Z9 ⟨U,0,Z8⟩) (cD (A,X,u,C,I) (D.take i)).length V) (cD (A,X,u,C,I) (D.take i)).length (rv (cD (A,X,u,C,I) (D.take i))));have u0:J.cell? ⟨g,i*3,Z8⟩=Z9 (.int .i64 D[i].1):=(by rw[<-s];exact s0);have u1:J.cell? ⟨g,i*3+1,Z8⟩=Z9 (.string D[i].2.1):=(by rw[<-s];exact s1);have u2:J.cell? ⟨g,i*3+2,Z8⟩=Z9 (.string D[i].2.2):=(by rw[<-s];exact s2);have z2:G.heap.size<=J.heap.size:=L.o.size;clear s;go_wp2_with (at_builtin;refine dQ _ rfl (.tmp 60) (.tmp 65) 49 89 _ _ 3 40 rfl Tryz.underlying49 bR bO bP bQ rfl (by decide) G.heap.size (.slice (Z9 ⟨U,0,Z8⟩) (cD (A,X,u,C,I) (D.take i)).length V) (.slice (Z9 ⟨J.heap.size,0,Z8⟩) 1 1) (cD (A,X,u,C,I) (D.take i)).length 1 (rv (cD (A,X,u,C,I) (D.take i))) (rv [(D[i].1,D[i].2.1,D[i].2.2)]) rfl (aV z.o (fun y hy=>(aj J _).block y (ax z.o y hy).2)) rfl (eN J (D[i].1,D[i].2.1,D[i].2.2) _ _ rfl) (bM _) (by unfold X9;omega) (by omega) (by simp;omega) ?_;intro a5 c5 w5 t a1 Z;obtain⟨g8,rfl,-,-⟩:=fa t (by omega);have B5:=lh (((L.o.alloc z2 _).grown a1 (by simp;omega) (fun q hq=>(ax z.o q hq).1)):ZV G.heap.size G w5);have a6:=lh t;clear t a1 Z);go_roundw;(case rel=>exact⟨i+1,g8,c5,by omega,by go_num,by rw[Q.o,ZQ];rfl,by rw[Q.o,ZQ,fB];exact a6.o,B5.o⟩);(case measure=>simp [Y4];omega)
       .have t1:(D[i].1 != X)=true:=bne_iff_ne.2 e1;have av:(D[i].1==X)=false:=ZG.2 e1;have Q:=lh (F.trans (Z0 (by unfold jL;rw[ZF e1];simp)));clear e1 F t2;go_wp2_with fail;go_quiet (fail);generalize s:WB wr _=J;have L:Hid (ZV G.heap.size G J):=lh (by rw[<-s];exact N.o.trans (bdr _ _ _));have z:=lh (aV R.o (fun y _=>by rw[<-s];rfl):J.ownsRow G.heap.size 89 3 (.slice (Z9 ⟨U,0,Z8⟩) (cD (A,X,u,C,I) (D.take i)).length V) (cD (A,X,u,C,I) (D.take i)).length (rv (cD (A,X,u,C,I) (D.take i))));have u0:J.cell? ⟨g,i*3,Z8⟩=Z9 (.int .i64 D[i].1):=(by rw[<-s];exact s0);have u1:J.cell? ⟨g,i*3+1,Z8⟩=Z9 (.string D[i].2.1):=(by rw[<-s];exact s1);have u2:J.cell? ⟨g,i*3+2,Z8⟩=Z9 (.string D[i].2.2):=(by rw[<-s];exact s2);have z2:G.heap.size<=J.heap.size:=L.o.size;clear s;go_wp2_with (at_builtin;refine dQ _ rfl (.tmp 60) (.tmp 65) 49 89 _ _ 3 40 rfl Tryz.underlying49 bR bO bP bQ rfl (by decide) G.heap.size (.slice (Z9 ⟨U,0,Z8⟩) (cD (A,X,u,C,I) (D.take i)).length V) (.slice (Z9 ⟨J.heap.size,0,Z8⟩) 1 1) (cD (A,X,u,C,I) (D.take i)).length 1 (rv (cD (A,X,u,C,I) (D.take i))) (rv [(D[i].1,D[i].2.1,D[i].2.2)]) rfl (aV z.o (fun y hy=>(aj J _).block y (ax z.o y hy).2)) rfl (eN J (D[i].1,D[i].2.1,D[i].2.2) _ _ rfl) (bM _) (by unfold X9;omega) (by omega) (by simp;omega) ?_;intro a5 c5 w5 t a1 Z;obtain⟨g8,rfl,-,-⟩:=fa t (by omega);have B5:=lh (((L.o.alloc z2 _).grown a1 (by simp;omega) (fun q hq=>(ax z.o q hq).1)):ZV G.heap.size G w5);have a6:=lh t;clear t a1 Z);go_roundw;(case rel=>exact⟨i+1,g8,c5,by omega,by go_num,by rw[Q.o,ZQ];rfl,by rw[Q.o,ZQ,fB];exact a6.o,B5.o⟩);(case measure=>simp [Y4];omega)
      .obtain rfl:i=D.length:=by omega
       rw[ZC (ZS _)] at R ao |-;by_cases T:A=0
       rotate_left
       .have t0:(A==0)=false:=ZG.2 T;have Q:=lh (a2.o.trans (Dp D T));clear T;go_wp2_with fail
        go_roundw
        case rel=>exact⟨k+1,U,V,by omega,by go_num,by rw[Q.o],by rw[Q.o];exact ej R.o z0,bt P.o N.o⟩
        case measure=>simp [Y4];omega
       .have t0:(A==0)=true:=Yy.2 T;have Q:=lh (a2.o.trans (Dr D T));clear T;have a4:=lh (fun W (ho:W.ownsRow G.heap.size 89 3 (.slice (Z9 ⟨U,0,Z8⟩) (cD (A,X,u,C,I) D).length V) (cD (A,X,u,C,I) D).length (rv (cD (A,X,u,C,I) D)))=>vk U V G.heap.size (cD (A,X,u,C,I) D) (X,u,C) W ho (by omega));go_upto_region 17 with fail
        refine Xf (S:=fun w'=>w'.cell? ⟨b,o+k*5+1,Z8⟩=Z9 (.int .i64 X)/\w'.cell? ⟨b,o+k*5+2,Z8⟩=Z9 (.string u)/\w'.cell? ⟨b,o+k*5+3,Z8⟩=Z9 (.string C)/\ZV wr.heap.size wr w') (by kernel_rfl) ?_ (fun hHeld=>?_)
        .exact⟨r1,r2,r3,X2 (ZM _ _)⟩
        have a8:b<wr.heap.size:=by omega
        have KS:∀ {W':World},ZV wr.heap.size wr W'->W'.cell? ⟨b,o+k*5+1,Z8⟩=Z9 (.int .i64 X)/\W'.cell? ⟨b,o+k*5+2,Z8⟩=Z9 (.string u)/\W'.cell? ⟨b,o+k*5+3,Z8⟩=Z9 (.string C)/\ZV wr.heap.size wr W':=fun h=>⟨(h.cell (p:=⟨b,_,Z8⟩) a8).trans r1,(h.cell (p:=⟨b,_,Z8⟩) a8).trans r2,(h.cell (p:=⟨b,_,Z8⟩) a8).trans r3,h⟩
        (refine rgy (i:=0) (Z9 74) ?_;(try simp only[Zu,pz]))
        (refine rgy (i:=1) (Z9 75) ?_;(try simp only[Zu,pz]))
        (refine rgy (i:=2) (Z9 76) ?_;(try simp only[Zu,pz]))
        (refine rgy (i:=3) (Z9 77) ?_;(try simp only[Zu,pz]))
        (refine rgy (i:=4) (Z9 78) ?_;(try simp only[Zu,pz]))
        (refine rgy (i:=5) (Z9 79) ?_;(try simp only[Zu,pz]))
        (refine rgy (i:=6) (Z9 80) ?_;(try simp only[Zu,pz]))
        (refine rgy (i:=7) (Z9 81) ?_;(try simp only[Zu,pz]))
        (refine rgy (i:=8) (Z9 82) ?_;(try simp only[Zu,pz]))
        (refine rgy (i:=9) (Z9 83) ?_;(try simp only[Zu,pz]))
        (refine rgy (i:=10) (Z9 84) ?_;(try simp only[Zu,pz]))
        (refine rgy (i:=11) (Z9 85) ?_;(try simp only[Zu,pz]))
        (refine rgy (i:=12) (Z9 86) ?_;(try simp only[Zu,pz]))
        (refine rgy (i:=13) (Z9 87) ?_;(try simp only[Zu,pz]))
        (refine rgy (i:=14) (Z9 88) ?_;(try simp only[Zu,pz]))
        (refine rgy (i:=15) (Z9 89) ?_;(try simp only[Zu,pz]))
        (refine rgy (i:=16) (Z9 90) ?_;(try simp only[Zu,pz]))
        refine rgb (i:=17) (by kernel_rfl) rfl (fun K hK=>?_)
        go_simp
        go_at_call 73
        refine (a4.o wr.drew (aV R.o (fun y _=>rfl))).mono ?_
        rintro _ w2 ⟨g',c',rfl,ho,a0⟩;have a7:ZV wr.heap.size wr w2:=(ZM wr.heap.size wr).drew.trans a0;refine hK.out _ _ (KS a7) (fun hHeld=>?_)
        (clear hK K;(try simp only[Zu,pz]))
        (refine rgy (i:=18) (Z9 5) ?_;(try simp only[Zu,pz]))
        refine WC (by kernel_rfl) ?_ _
        have z:=lh ho;have ag:=lh a7;clear ho a0 a7 hHeld;go_wp2_with fail
        go_roundw
        case rel=>exact⟨k+1,g',c',by omega,by go_num,by rw[Q.o],by rw[Q.o];exact ej z.o (by show w.heap.size<=wr.heap.size;omega),bt P.o (bt N.o ag.o)⟩
        case measure=>simp [Y4];omega
    .obtain rfl:k=E.length:=by omega
     rw[ZC (ZS _)] at H |-;have af:=pt d E;have HO:=lh H;clear H;go_wp2_with fail
     go_ret
     exact⟨_,rfl,jX (by omega) (dU HO.o),fun q hq=>ax HO.o q hq,P.o⟩
end
end Go.Proofs.YtnkjliahpeebjaaGreatDoor
