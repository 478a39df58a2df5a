/- Catalogs. -/
import Derived.Test.YtnkjliahpeebjaaGreatDoorChecked
import Derived.Test.YtnkjliahpeebjaaGreatDoorKit
import Derived.Test.YtnkjliahpeebjaaGreatDoorDs
import Derived.Test.YtnkjliahpeebjaaGreatDoorShelf
import Derived.Laws.EntriesVeiled
set_option maxHeartbeats 400000
open Go.Proofs.Tryz renaming prog->Z8
open _root_ renaming ByteArray->Z6,decide_eq_true_eq->ZU,if_neg->ZS,decide_eq_true->ZI,decide_eq_false->ZG,decide_eq_false_iff_not->ZF,congrArg->Y7
open Go.Proofs.YtnkjliahpeebjaaGreatDoor.Ds renaming bl->Z5,bl_length->ZZ,name->YP,rest->XQ,num->XO,pieces->Xw,bl_get->Xe,rest_next->WU,group->WM,rest_end->WB
open Go.RowKit renaming Below->Z4,intOf->Zq
open Bool renaming true->ZX,false->ZW,eq_iff_iff->Zn,true_and->Zc,eq_false_iff->Yq,false_and->XT
open Go.RowKit.Below renaming refl->ZR,drew->Y3,setCell->XG,alloc->Xy
open Go renaming Calls->ZH
open List renaming getElem?_eq_getElem->ZE,take_of_length_le->Zv,length_drop->XZ
open Go.Value renaming string->Y1
namespace Go.Proofs.YtnkjliahpeebjaaGreatDoor
open Go.RowKit
variable(c:UInt8)(a:List Z6)(s:Z6)(b p:Nat)(w:World)
theorem mB :
 ZH Z8 80 #[.int .u8 c.toNat] w fun e W=>e=.returned (.bool (Ds.up c))/\w=W:=by
 go_enter Tryz.func80,Tryz.ntmps80
 go_wp2
 all_goals (go_ret;exact⟨aF (by rw[Zn];simp [Ds.up];omega),rfl⟩)
theorem oT :
 ZH Z8 181 #[.int .u8 c.toNat] w fun e W=>e=.returned (.bool (Ds.dg c))/\w=W:=by
 go_enter Tryz.func181,Tryz.ntmps181
 go_wp2
 all_goals (go_ret;exact⟨aF (by rw[Zn];simp [Ds.dg];omega),rfl⟩)
theorem oU :
 ZH Z8 81 #[.int .u8 c.toNat] w fun e W=>e=.returned (.bool (Ds.pl c))/\w=W:=by
 cases h:Ds.up c
 all_goals
  have H:=lh h;clear h;go_enter Tryz.func81,Tryz.ntmps81
  go_wp2_with (first|(go_at_call 80;(with_reducible refine (mB _ _).mono ?_);rintro e W ⟨rfl,rfl⟩)|(go_at_call 181;(with_reducible refine (oT _ _).mono ?_);rintro e W ⟨rfl,rfl⟩))
  all_goals (go_ret;exact⟨aF (by simp_all [Ds.pl,H.o]),rfl⟩)
theorem vN :
 ZH Z8 188 #[.int .u8 c.toNat] w fun e W=>e=.returned (.bool (Ds.ups c))/\w=W:=by
 cases h:Ds.up c
 all_goals
  go_enter Tryz.func188,Tryz.ntmps188
  go_wp2_with (go_at_call 80;(with_reducible refine (mB _ _).mono ?_);rintro e W ⟨rfl,rfl⟩)
  all_goals (go_ret;exact⟨aF (by rw[Zn];simp [Ds.ups,h] <;> omega),rfl⟩)
theorem vM :
 ZH Z8 190 #[.int .u8 c.toNat] w fun e W=>e=.returned (.bool (Ds.pls c))/\w=W:=by
 cases h:Ds.pl c
 all_goals
  go_enter Tryz.func190,Tryz.ntmps190
  go_wp2_with (go_at_call 81;(with_reducible refine (oU _ _).mono ?_);rintro e W ⟨rfl,rfl⟩)
  all_goals (go_ret;exact⟨aF (by rw[Zn];simp [Ds.pls,h] <;> omega),rfl⟩)
theorem Dj :
 ZH Z8 79 #[.string s,.func (.func 80) #[] #[],.func (.func 81) #[] #[]] w fun e W=>e=.returned (.bool (Ds.qual Ds.up Ds.pl (Z5 s)))/\w=W:=by
 have l:=ZZ s;by_cases d:s.size<1
 have D:=lh (Ds.qual_len Ds.up Ds.pl (Z5 s) (by omega));have E:(decide ((s.size:Int)<1))=ZX:=by rw[ZU];omega
 clear l d;rotate_left;by_cases f:8<s.size
 have D:=lh (Ds.qual_len Ds.up Ds.pl (Z5 s) (by omega));have E:(decide ((s.size:Int)<1))=ZW:=by rw[ZF];omega
 have j:(decide (8<(s.size:Int)))=ZX:=by rw[ZU];omega
 clear l d;rotate_left;have E:(decide ((s.size:Int)<1))=ZW:=by rw[ZF];omega
 have j:(decide (8<(s.size:Int)))=ZW:=by rw[ZF];omega
 have n:0<s.size:=by omega
 have m:s.size<=8:=by omega
 have g:=Xe s 0 n;cases hF:Ds.up s[0]
 have D:=lh (Ds.qual_head Ds.up Ds.pl (Z5 s) (by omega) (by rw[<-g];exact hF));clear l d f g;rotate_left;have D:=lh (Ds.qual_rest Ds.up Ds.pl (Z5 s) (by omega) (by omega) (by rw[<-g];exact hF));have L:=lh l;clear l d f g;rotate_left
 iterate 3
  focus
   go_enter Tryz.func79,Tryz.ntmps79
   go_wp2_with (go_at_call 80;(with_reducible refine (mB _ _).mono ?_);rintro e W ⟨rfl,rfl⟩)
   go_ret
   exact⟨aF D.o.symm,rfl⟩
 go_enter Tryz.func79,Tryz.ntmps79
 go_wp2_with (go_at_call 80;(with_reducible refine (mB _ _).mono ?_);rintro e W ⟨rfl,rfl⟩)
 clear hF;go_loopw [7] (fun i wr=>∃ k:Nat,k<=s.size/\i=.int .i64 k/\Ds.qual Ds.up Ds.pl (Z5 s)=XQ Ds.pl (Z5 s) k/\w=wr) (fun i _=>s.size - (Zq i).toNat)
 case atStart=>exact⟨1,by omega,rfl,D.o,rfl⟩
 case round =>
  obtain⟨k,o,rfl,q,rfl⟩:=hrel;have Q:=lh q;clear q;by_cases t:k<s.size
  .have h:=WU Ds.pl (Z5 s) k (by rw[L.o];exact t);rw[<-Xe s k t] at h;cases G:Ds.pl s[k]
   .rw[G] at h;have H:=lh (Q.o.trans h);clear h;go_wp2_with (go_at_call 81;(with_reducible refine (oU _ _).mono ?_);rintro e W ⟨rfl,rfl⟩)
    go_ret
    exact⟨aF H.o.symm,rfl⟩
   .rw[G] at h;have H:=lh (Q.o.trans h);clear h;go_wp2_with (go_at_call 81;(with_reducible refine (oU _ _).mono ?_);rintro e W ⟨rfl,rfl⟩)
    go_roundw
    case rel=>exact⟨k+1,by omega,by go_num,H.o,trivial⟩
    case measure=>simp [Zq];omega
  .have h:=Q.o.trans (WB Ds.pl (Z5 s) k (by rw[L.o];omega));have H:=lh h;clear h;obtain rfl:k=s.size:=by omega
   go_wp2_with fail
   go_ret
   exact⟨aF H.o.symm,rfl⟩
theorem tz :
 ZH Z8 79 #[.string s,.func (.func 188) #[] #[],.func (.func 190) #[] #[]] w fun e W=>e=.returned (.bool (Ds.qual Ds.ups Ds.pls (Z5 s)))/\w=W:=by
 have l:=ZZ s;by_cases d:s.size<1
 have D:=lh (Ds.qual_len Ds.ups Ds.pls (Z5 s) (by omega));have E:(decide ((s.size:Int)<1))=ZX:=by rw[ZU];omega
 clear l d;rotate_left;by_cases f:8<s.size
 have D:=lh (Ds.qual_len Ds.ups Ds.pls (Z5 s) (by omega));have E:(decide ((s.size:Int)<1))=ZW:=by rw[ZF];omega
 have j:(decide (8<(s.size:Int)))=ZX:=by rw[ZU];omega
 clear l d;rotate_left;have E:(decide ((s.size:Int)<1))=ZW:=by rw[ZF];omega
 have j:(decide (8<(s.size:Int)))=ZW:=by rw[ZF];omega
 have n:0<s.size:=by omega
 have m:s.size<=8:=by omega
 have g:=Xe s 0 n;cases hF:Ds.ups s[0]
 have D:=lh (Ds.qual_head Ds.ups Ds.pls (Z5 s) (by omega) (by rw[<-g];exact hF));clear l d f g;rotate_left;have D:=lh (Ds.qual_rest Ds.ups Ds.pls (Z5 s) (by omega) (by omega) (by rw[<-g];exact hF));have L:=lh l;clear l d f g;rotate_left
 iterate 3
  focus
   go_enter Tryz.func79,Tryz.ntmps79
   go_wp2_with (go_at_call 188;(with_reducible refine (vN _ _).mono ?_);rintro e W ⟨rfl,rfl⟩)
   go_ret
   exact⟨aF D.o.symm,rfl⟩
 go_enter Tryz.func79,Tryz.ntmps79
 go_wp2_with (go_at_call 188;(with_reducible refine (vN _ _).mono ?_);rintro e W ⟨rfl,rfl⟩)
 clear hF;go_loopw [7] (fun i wr=>∃ k:Nat,k<=s.size/\i=.int .i64 k/\Ds.qual Ds.ups Ds.pls (Z5 s)=XQ Ds.pls (Z5 s) k/\w=wr) (fun i _=>s.size - (Zq i).toNat)
 case atStart=>exact⟨1,by omega,rfl,D.o,rfl⟩
 case round =>
  obtain⟨k,o,rfl,q,rfl⟩:=hrel;have Q:=lh q;clear q;by_cases t:k<s.size
  .have h:=WU Ds.pls (Z5 s) k (by rw[L.o];exact t);rw[<-Xe s k t] at h;cases G:Ds.pls s[k]
   .rw[G] at h;have H:=lh (Q.o.trans h);clear h;go_wp2_with (go_at_call 190;(with_reducible refine (vM _ _).mono ?_);rintro e W ⟨rfl,rfl⟩)
    go_ret
    exact⟨aF H.o.symm,rfl⟩
   .rw[G] at h;have H:=lh (Q.o.trans h);clear h;go_wp2_with (go_at_call 190;(with_reducible refine (vM _ _).mono ?_);rintro e W ⟨rfl,rfl⟩)
    go_roundw
    case rel=>exact⟨k+1,by omega,by go_num,H.o,trivial⟩
    case measure=>simp [Zq];omega
  .have h:=Q.o.trans (WB Ds.pls (Z5 s) k (by rw[L.o];omega));have H:=lh h;clear h;obtain rfl:k=s.size:=by omega
   go_wp2_with fail
   go_ret
   exact⟨aF H.o.symm,rfl⟩
def MaxL(w:World):Prop:=∃ m:Int,w.cell? ⟨0,0,none⟩=some (.int .i64 m)
theorem MaxL.below{w w':World}(h:MaxL w)(H:Z4 w.heap.size w w'):MaxL w':=h.imp fun _ h=>ai H h
theorem ml(g:s.size<4294967281)(h:MaxL w) :
 ZH Z8 95 #[.string s,.string ⟨#[46]⟩] w fun e W=>∃ a:List Z6,a.length<=s.size+1/\a.map Z5=Xw (Z5 s)/\e=.returned (.slice (some ⟨w.heap.size,0,none⟩) a.length a.length)/\W=w.alloc (.cells (a.map Y1).toArray 9):=by
 obtain⟨m,h⟩:=h;refine (Tryz.strings_Split s ⟨#[46]⟩ m w g h (by decide)).mono ?_
 rintro e W ⟨rfl,rfl⟩
 have H:(Lib.splitB ⟨#[46]⟩ 0 (Lib.countB s ⟨#[46]⟩) s).map Z5=Xw (Z5 s):=by
  have:=Lib.splitB_data ⟨#[46]⟩ 0 (Lib.countB s ⟨#[46]⟩) s;rw[<-Ds.splitK_pieces];exact this
 have d:(Lib.splitB ⟨#[46]⟩ 0 (Lib.countB s ⟨#[46]⟩) s).length=Lib.countB s ⟨#[46]⟩+1:=by
  have E:=Y7 List.length H;rw[List.length_map,Ds.pieces_len] at E;rw[E,<-Ds.count_eq];rfl
 have f:(Z5 s).count 46<=(Z5 s).length:=List.count_le_length;rw[ZZ,<-Ds.count_eq] at f;exact⟨_,by rw[d];exact Nat.succ_le_succ f,H,by rw[d],rfl⟩
theorem sf :
 ZH Z8 78 #[.string s] w fun e W=>e=.returned (.bool (Ds.nameQ (Z5 s)))/\w=W:=by
 go_enter Tryz.func78,Tryz.ntmps78
 go_wp2_with (go_at_call 79;(with_reducible refine (Dj _ _).mono ?_);rintro e W ⟨rfl,rfl⟩)
 go_ret
 exact⟨rfl,rfl⟩
theorem yk(o:MaxL w) :
 ZH Z8 77 #[.string s,.int .i64 31,.func (.func 78) #[] #[]] w fun e W=>e=.returned (.bool (YP (Z5 s)))/\Z4 w.heap.size w W:=by
 have l:=ZZ s;by_cases d:s.size<1
 .have D:=lh (show YP (Z5 s)=ZW by unfold YP;rw[ZG (by omega)];rfl);have E:(decide ((s.size:Int)<1))=ZX:=by rw[ZU];omega
  clear l d;go_enter Tryz.func77,Tryz.ntmps77
  go_wp2_with fail
  go_ret
  exact⟨aF D.o.symm,ZR _ _⟩
 by_cases n:31<s.size
 .have D:=lh (show YP (Z5 s)=ZW by unfold YP;rw[ZG (p:=(Z5 s).length<=31) (by omega)];simp);have E:(decide ((s.size:Int)<1))=ZW:=by rw[ZF];omega
  have m:(decide (31<(s.size:Int)))=ZX:=by rw[ZU];omega
  clear l d;go_enter Tryz.func77,Tryz.ntmps77
  go_wp2_with fail
  go_ret
  exact⟨aF D.o.symm,ZR _ _⟩
 have E:(decide ((s.size:Int)<1))=ZW:=by rw[ZF];omega
 have m:(decide (31<(s.size:Int)))=ZW:=by rw[ZF];omega
 have u:s.size<4294967281:=by omega
 have D:=lh (show YP (Z5 s)=(Xw (Z5 s)).all Ds.nameQ by unfold YP;rw[ZI (by omega),ZI (by omega)];rfl);clear l d n;go_enter Tryz.func77,Tryz.ntmps77
 go_wp2_with (go_at_call 95;(with_reducible refine (ml _ _ u o).mono ?_);rintro e W ⟨a,r,f,rfl,rfl⟩;have j:=lh (D.o.trans (by rw[<-f,List.all_map];rfl:_=XQ (fun q=>Ds.nameQ (Z5 q)) a 0));clear f D)
 have S:=Strs.new w a 9;go_loopw [8,21] (fun q i wr=>∃ k:Nat,k<=a.length/\i=.int .i64 k/\YP (Z5 s)=XQ (fun q=>Ds.nameQ (Z5 q)) a k/\wr=w.alloc (.cells (a.map Y1).toArray 9)) (fun _ i _=>a.length - (Zq i).toNat)
 case atStart=>exact⟨0,by omega,rfl,j.o,rfl⟩
 case round =>
  obtain⟨k,x,rfl,g,rfl⟩:=hrel;have Q:=lh g;clear g;by_cases t:k<a.length
  .have h:=WU (fun q=>Ds.nameQ (Z5 q)) a k t;have v:=S k t;cases G:Ds.nameQ (Z5 a[k])
   .rw[G] at h;have H:=lh (Q.o.trans h);clear h;go_wp2_with (go_at_call 78;(with_reducible refine (sf _ _).mono ?_);rintro e W ⟨rfl,rfl⟩)
    go_ret
    exact⟨aF H.o.symm,by (repeat (first|exact ZR _ _|assumption|(refine Y3 ?_)|(refine Xy ?_ (by simp) _)|(refine XG ?_ (by simp) _)))⟩
   .rw[G] at h;have H:=lh (Q.o.trans h);clear h;go_wp2_with (go_at_call 78;(with_reducible refine (sf _ _).mono ?_);rintro e W ⟨rfl,rfl⟩)
    go_roundw
    case rel=>exact⟨k+1,by omega,by go_num,H.o,trivial⟩
    case measure=>simp [Zq];omega
  .have h:=Q.o.trans (WB (fun q=>Ds.nameQ (Z5 q)) a k (by omega));have H:=lh h;clear h;obtain rfl:k=a.length:=by omega
   go_wp2_with fail
   go_ret
   exact⟨aF H.o.symm,by (repeat (first|exact ZR _ _|assumption|(refine Y3 ?_)|(refine Xy ?_ (by simp) _)|(refine XG ?_ (by simp) _)))⟩
theorem ez(H:MaxL w) :
 ZH Z8 32 #[.string s] w fun e W=>e=.returned (.bool (YP (Z5 s)))/\Z4 w.heap.size w W:=by
 go_enter Tryz.func32,Tryz.ntmps32
 go_wp2_with (go_at_call 77;(with_reducible refine (yk _ _ H).mono ?_);rintro e d ⟨rfl,h⟩)
 go_ret
 exact⟨rfl,h⟩
theorem tA(f:MaxL w)(n:w.cell? ⟨p,0,none⟩=some (.func (.func 188) #[] #[])) :
 ZH Z8 189 #[.string s,.pointer (some ⟨p,0,none⟩)] w fun e W=>e=.returned (.bool (Ds.patQ (Z5 s)))/\w=W:=by
 have l:=ZZ s;by_cases H:s=⟨#[42,42]⟩
 .have d:=(Ds.bl_eq s [42,42]).1 H;have D:=lh (show Ds.patQ (Z5 s)=ZX by unfold Ds.patQ;rw[ZI d];rfl);clear l d;subst H;go_enter Tryz.func189,Tryz.ntmps189
  go_wp2_with fail
  go_ret
  exact⟨aF D.o.symm,rfl⟩
 have D:=lh (show Ds.patQ (Z5 s)=(Ds.qual Ds.ups Ds.pls (Z5 s)&&!Ds.ss (Z5 s)) by unfold Ds.patQ;rw[ZG (fun h=>H ((Ds.bl_eq s [42,42]).2 h))];rfl);have i:=Ds.bl_beq s [42,42] H;clear H;cases q:Ds.qual Ds.ups Ds.pls (Z5 s)
 .rw[q] at D;clear l;go_enter Tryz.func189,Tryz.ntmps189
  go_wp2_with (go_at_call 79;(with_reducible refine (tz _ _).mono ?_);rintro e W ⟨rfl,rfl⟩)
  go_ret
  exact⟨aF D.o.symm,rfl⟩
 .rw[q] at D;have j:=Ds.qual_le _ _ _ q;have g:s.size<4294967281:=by omega
  clear l j;obtain⟨m,f⟩:=f;have k:Lib.contains s.data.toList [42,42]=Ds.ss (Z5 s):=Ds.contains_ss _;go_enter Tryz.func189,Tryz.ntmps189
  go_wp2_with (first|(go_at_call 79;(with_reducible refine (tz _ _).mono ?_);rintro e W ⟨rfl,rfl⟩)|(go_at_call 191;(with_reducible refine (Tryz.strings_Contains _ _ _ _ g f).mono ?_);rintro e W ⟨rfl,rfl⟩))
  go_ret
  exact⟨aF (D.o.symm),rfl⟩
theorem za(n:MaxL w)(m:w.cell? ⟨p,0,none⟩=some (.func (.func 188) #[] #[])) :
 ZH Z8 77 #[.string s,.int .i64 31,.func (.func 189) #[] #[.pointer (some ⟨p,0,none⟩)]] w fun e W=>e=.returned (.bool (Ds.pat (Z5 s)))/\Z4 w.heap.size w W:=by
 have j:=ZZ s;by_cases g:s.size<1
 .have D:=lh (show Ds.pat (Z5 s)=ZW by unfold Ds.pat;rw[ZG (by omega)];rfl);have E:(decide ((s.size:Int)<1))=ZX:=by rw[ZU];omega
  clear j g;go_enter Tryz.func77,Tryz.ntmps77
  go_wp2_with fail
  go_ret
  exact⟨aF D.o.symm,ZR _ _⟩
 by_cases x:31<s.size
 .have D:=lh (show Ds.pat (Z5 s)=ZW by unfold Ds.pat;rw[ZG (p:=(Z5 s).length<=31) (by omega)];simp);have E:(decide ((s.size:Int)<1))=ZW:=by rw[ZF];omega
  have v:(decide (31<(s.size:Int)))=ZX:=by rw[ZU];omega
  clear j g;go_enter Tryz.func77,Tryz.ntmps77
  go_wp2_with fail
  go_ret
  exact⟨aF D.o.symm,ZR _ _⟩
 have E:(decide ((s.size:Int)<1))=ZW:=by rw[ZF];omega
 have v:(decide (31<(s.size:Int)))=ZW:=by rw[ZF];omega
 have z:s.size<4294967281:=by omega
 have D:=lh (show Ds.pat (Z5 s)=(Xw (Z5 s)).all Ds.patQ by unfold Ds.pat;rw[ZI (by omega),ZI (by omega)];rfl);clear j g x;go_enter Tryz.func77,Tryz.ntmps77
 go_wp2_with (go_at_call 95;(with_reducible refine (ml _ _ z n).mono ?_);rintro e W ⟨a,y,o,rfl,rfl⟩;have u:=lh (D.o.trans (by rw[<-o,List.all_map];rfl:_=XQ (fun q=>Ds.patQ (Z5 q)) a 0));clear o D)
 have S:=Strs.new w a 9;have f:MaxL (w.alloc (.cells (a.map Y1).toArray 9)):=n.below (by (repeat (first|exact ZR _ _|assumption|(refine Y3 ?_)|(refine Xy ?_ (by simp) _)|(refine XG ?_ (by simp) _))));have d:(w.alloc (.cells (a.map Y1).toArray 9)).cell? ⟨p,0,none⟩=some (.func (.func 188) #[] #[]):=ai (by (repeat (first|exact ZR _ _|assumption|(refine Y3 ?_)|(refine Xy ?_ (by simp) _)|(refine XG ?_ (by simp) _)))) m;clear m;go_loopw [8,21] (fun q i wr=>∃ k:Nat,k<=a.length/\i=.int .i64 k/\Ds.pat (Z5 s)=XQ (fun q=>Ds.patQ (Z5 q)) a k/\wr=w.alloc (.cells (a.map Y1).toArray 9)) (fun _ i _=>a.length - (Zq i).toNat)
 case atStart=>exact⟨0,by omega,rfl,u.o,rfl⟩
 case round =>
  obtain⟨k,A,rfl,r,rfl⟩:=hrel;have Q:=lh r;clear r;by_cases t:k<a.length
  .have h:=WU (fun q=>Ds.patQ (Z5 q)) a k t;have l:=S k t;cases G:Ds.patQ (Z5 a[k])
   .rw[G] at h;have H:=lh (Q.o.trans h);clear h;go_wp2_with (go_at_call 189;(with_reducible refine (tA _ p _ f d).mono ?_);rintro e W ⟨rfl,rfl⟩)
    go_ret
    exact⟨aF H.o.symm,by (repeat (first|exact ZR _ _|assumption|(refine Y3 ?_)|(refine Xy ?_ (by simp) _)|(refine XG ?_ (by simp) _)))⟩
   .rw[G] at h;have H:=lh (Q.o.trans h);clear h;go_wp2_with (go_at_call 189;(with_reducible refine (tA _ p _ f d).mono ?_);rintro e W ⟨rfl,rfl⟩)
    go_roundw
    case rel=>exact⟨k+1,by omega,by go_num,H.o,trivial⟩
    case measure=>simp [Zq];omega
  .have h:=Q.o.trans (WB (fun q=>Ds.patQ (Z5 q)) a k (by omega));have H:=lh h;clear h;obtain rfl:k=a.length:=by omega
   go_wp2_with fail
   go_ret
   exact⟨aF H.o.symm,by (repeat (first|exact ZR _ _|assumption|(refine Y3 ?_)|(refine Xy ?_ (by simp) _)|(refine XG ?_ (by simp) _)))⟩
theorem Gu(H:MaxL w) :
 ZH Z8 89 #[.string s] w fun e W=>e=.returned (.bool (Ds.pat (Z5 s)))/\Z4 w.heap.size w W:=by
 go_enter Tryz.func89,Tryz.ntmps89
 go_wp2_with (go_at_call 77;(with_reducible refine (za _ _ _ (H.below (by (repeat (first|exact ZR _ _|assumption|(refine Y3 ?_)|(refine Xy ?_ (by simp) _)|(refine XG ?_ (by simp) _))))) (by simp [go_sem])).mono ?_);rintro e d ⟨rfl,h⟩)
 go_ret
 exact⟨rfl,(Xy (ZR _ _) (Nat.le_refl _) _).trans (h.mono (by simp))⟩
theorem gZ :
 ZH Z8 285 #[.int .u8 c.toNat] w fun e W=>e=.returned (.bool (Ds.dg c))/\w=W:=by
 go_enter Tryz.func285,Tryz.ntmps285
 go_wp2
 all_goals (go_ret;exact⟨aF (by rw[Zn];simp [Ds.dg];omega),rfl⟩)
theorem mq :
 ZH Z8 231 #[.string s] w fun e W=>e=.returned (.int .i64 (XO (Z5 s)))/\w=W:=by
 have l:=ZZ s;by_cases z:s.size=8
 rotate_left
 .have D:=lh (show XO (Z5 s)=0 by unfold XO;rw[ZS (by omega)]);have E:((s.size:Int) != 8)=ZX:=by simp;omega
  clear l z;go_enter Tryz.func231,Tryz.ntmps231
  go_wp2_with fail
  go_ret
  exact⟨gM (by rw[D.o];rfl),rfl⟩
 have y:0<s.size:=by omega
 have j:=Xe s 0 y;by_cases H:s[0].toNat=71
 rotate_left
 .have D:=lh (show XO (Z5 s)=0 by
   unfold XO;rw[ZS];rintro ⟨_,h,_⟩;rw[ZE (by omega),<-j] at h;rw[Option.some.inj h] at H;exact H rfl)
  have E:((s[0].toNat:Int) != 71)=ZX:=by simp;omega
  clear l j H;go_enter Tryz.func231,Tryz.ntmps231
  go_wp2_with fail
  go_ret
  exact⟨gM (by rw[D.o];rfl),rfl⟩
 have A:((s[0].toNat:Int) != 71)=ZW:=by simp [H]
 have d:(Z5 s)[0]?=some 71:=by
  rw[ZE (by omega),<-j];exact Y7 some (UInt8.toNat_inj.1 H)
 clear H j
 have x:(s.extract 5 8).toList=(Z5 s).drop 5:=by
  rw[ByteArray.toList_eq,Lib.extract_data];simp only[Z5]
  rw[Zv (by rw[XZ,Array.length_toList];show s.size - 5<=_;omega)]
 by_cases V:(Z5 s).drop 5=[86,48,48]
 rotate_left
 .have D:=lh (show XO (Z5 s)=0 by
   unfold XO;rw[ZS];rintro ⟨_,_,h,_⟩;exact V h)
  have E:((s.extract 5 8).toList==[86,48,48])=ZW:=by rw[x,Yq];intro h;exact V (by simpa using h)
  clear l x V d;go_enter Tryz.func231,Tryz.ntmps231
  go_wp2_with fail
  go_ret
  exact⟨gM (by rw[D.o];rfl),rfl⟩
 have E:((s.extract 5 8).toList==[86,48,48])=ZX:=by rw[x,V];rfl
 have f:(Z5 s).length=8:=by omega
 have D:=lh (show XO (Z5 s)=if XQ Ds.dg (Ds.mid (Z5 s)) 0=ZX then Ds.nv (Z5 s) 4 else 0 by
  unfold XO;simp only[f,d,V,true_and])
 have L:=lh f;clear l x V d f;go_enter Tryz.func231,Tryz.ntmps231
 go_wp2_with fail
 go_loopw [3,4] (fun n i wr=>∃ k v:Nat,k<=4/\v=Ds.nv (Z5 s) k/\n=.int .i64 v/\i=.int .i64 (k+1)/\XQ Ds.dg (Ds.mid (Z5 s)) 0=XQ Ds.dg (Ds.mid (Z5 s)) k/\w=wr) (fun _ i _=>6 - (Zq i).toNat)
 case atStart=>exact⟨0,0,by omega,rfl,rfl,rfl,rfl,rfl⟩
 case round =>
  obtain⟨k,v,G,o,rfl,rfl,u,rfl⟩:=hrel;have F:v<=10000000000:=by rw[o];exact (Ds.nv_bound _ _).1
  have q:=lh o;have Q:=lh u;clear o u;by_cases t:k<4
  .have g:k+1<s.size:=by omega
   have r:=WU Ds.dg (Ds.mid (Z5 s)) k (by rw[Ds.mid_length _ L.o];exact t);rw[Ds.mid_get _ L.o k t,<-Xe s (k+1) g] at r;cases H:Ds.dg s[k+1]
   .rw[H] at r;have R:=lh (Q.o.trans r);clear r;go_wp2_with (go_at_call 181;(with_reducible refine (oT _ _).mono ?_);rintro e W ⟨rfl,rfl⟩)
    go_ret
    exact⟨gM (by rw[D.o,R.o];rfl),rfl⟩
   .rw[H] at r;have R:=lh (Q.o.trans r);clear r;obtain⟨B,C⟩:=Ds.dg_bounds _ H;have m:=Ds.nv_next (Z5 s) L.o k t;rw[<-q.o,<-Xe s (k+1) g] at m;have N:=lh m;clear m;go_wp2_with (go_at_call 181;(with_reducible refine (oT _ _).mono ?_);rintro e W ⟨rfl,rfl⟩)
    go_roundw
    case rel=>exact⟨k+1,_,by omega,N.o.symm,by go_num,by go_num,R.o,trivial⟩
    case measure=>simp [Zq];omega
  .obtain rfl:k=4:=by omega
   have r:=Q.o.trans (WB Ds.dg (Ds.mid (Z5 s)) 4 (by rw[Ds.mid_length _ L.o];omega));have R:=lh r;clear r;go_wp2_with fail
   go_ret
   exact⟨gM (by rw[D.o,R.o,q.o];rfl),rfl⟩
theorem oh :
 ZH Z8 226 #[.string s] w fun e W=>e=.returned (.int .i64 (XO (Z5 s)))/\w=W:=by
 have l:=ZZ s;by_cases z:s.size=8
 rotate_left
 .have D:=lh (show XO (Z5 s)=0 by unfold XO;rw[ZS (by omega)]);have E:((s.size:Int) != 8)=ZX:=by simp;omega
  clear l z;go_enter Tryz.func226,Tryz.ntmps226
  go_wp2_with fail
  go_ret
  exact⟨gM (by rw[D.o];rfl),rfl⟩
 have y:0<s.size:=by omega
 have j:=Xe s 0 y;by_cases H:s[0].toNat=71
 rotate_left
 .have D:=lh (show XO (Z5 s)=0 by
   unfold XO;rw[ZS];rintro ⟨_,h,_⟩;rw[ZE (by omega),<-j] at h;rw[Option.some.inj h] at H;exact H rfl)
  have E:((s[0].toNat:Int) != 71)=ZX:=by simp;omega
  clear l j H;go_enter Tryz.func226,Tryz.ntmps226
  go_wp2_with fail
  go_ret
  exact⟨gM (by rw[D.o];rfl),rfl⟩
 have A:((s[0].toNat:Int) != 71)=ZW:=by simp [H]
 have d:(Z5 s)[0]?=some 71:=by
  rw[ZE (by omega),<-j];exact Y7 some (UInt8.toNat_inj.1 H)
 clear H j
 have x:(s.extract 5 8).toList=(Z5 s).drop 5:=by
  rw[ByteArray.toList_eq,Lib.extract_data];simp only[Z5]
  rw[Zv (by rw[XZ,Array.length_toList];show s.size - 5<=_;omega)]
 by_cases V:(Z5 s).drop 5=[86,48,48]
 rotate_left
 .have D:=lh (show XO (Z5 s)=0 by
   unfold XO;rw[ZS];rintro ⟨_,_,h,_⟩;exact V h)
  have E:((s.extract 5 8).toList==[86,48,48])=ZW:=by rw[x,Yq];intro h;exact V (by simpa using h)
  clear l x V d;go_enter Tryz.func226,Tryz.ntmps226
  go_wp2_with fail
  go_ret
  exact⟨gM (by rw[D.o];rfl),rfl⟩
 have E:((s.extract 5 8).toList==[86,48,48])=ZX:=by rw[x,V];rfl
 have f:(Z5 s).length=8:=by omega
 have D:=lh (show XO (Z5 s)=if XQ Ds.dg (Ds.mid (Z5 s)) 0=ZX then Ds.nv (Z5 s) 4 else 0 by
  unfold XO;simp only[f,d,V,true_and])
 have L:=lh f;clear l x V d f;go_enter Tryz.func226,Tryz.ntmps226
 go_wp2_with fail
 go_loopw [3,4] (fun n i wr=>∃ k v:Nat,k<=4/\v=Ds.nv (Z5 s) k/\n=.int .i64 v/\i=.int .i64 (k+1)/\XQ Ds.dg (Ds.mid (Z5 s)) 0=XQ Ds.dg (Ds.mid (Z5 s)) k/\w=wr) (fun _ i _=>6 - (Zq i).toNat)
 case atStart=>exact⟨0,0,by omega,rfl,rfl,rfl,rfl,rfl⟩
 case round =>
  obtain⟨k,v,G,o,rfl,rfl,u,rfl⟩:=hrel;have F:v<=10000000000:=by rw[o];exact (Ds.nv_bound _ _).1
  have q:=lh o;have Q:=lh u;clear o u;by_cases t:k<4
  .have g:k+1<s.size:=by omega
   have r:=WU Ds.dg (Ds.mid (Z5 s)) k (by rw[Ds.mid_length _ L.o];exact t);rw[Ds.mid_get _ L.o k t,<-Xe s (k+1) g] at r;cases H:Ds.dg s[k+1]
   .rw[H] at r;have R:=lh (Q.o.trans r);clear r;go_wp2_with (go_at_call 285;(with_reducible refine (gZ _ _).mono ?_);rintro e W ⟨rfl,rfl⟩)
    go_ret
    exact⟨gM (by rw[D.o,R.o];rfl),rfl⟩
   .rw[H] at r;have R:=lh (Q.o.trans r);clear r;obtain⟨B,C⟩:=Ds.dg_bounds _ H;have m:=Ds.nv_next (Z5 s) L.o k t;rw[<-q.o,<-Xe s (k+1) g] at m;have N:=lh m;clear m;go_wp2_with (go_at_call 285;(with_reducible refine (gZ _ _).mono ?_);rintro e W ⟨rfl,rfl⟩)
    go_roundw
    case rel=>exact⟨k+1,_,by omega,N.o.symm,by go_num,by go_num,R.o,trivial⟩
    case measure=>simp [Zq];omega
  .obtain rfl:k=4:=by omega
   have r:=Q.o.trans (WB Ds.dg (Ds.mid (Z5 s)) 4 (by rw[Ds.mid_length _ L.o];omega));have R:=lh r;clear r;go_wp2_with fail
   go_ret
   exact⟨gM (by rw[D.o,R.o,q.o];rfl),rfl⟩
theorem se :
 ZH Z8 235 #[.string s] w fun e W=>e=.returned (.bool (decide (0<XO (Z5 s))))/\w=W:=by
 go_enter Tryz.func235,Tryz.ntmps235
 go_wp2_with (go_at_call 231;(with_reducible refine (mq _ _).mono ?_);rintro e W ⟨rfl,rfl⟩)
 go_ret
 exact⟨aF (by simp),rfl⟩
theorem xQ(S:Strs w b a)(l:a.length<=100) :
 ZH Z8 290 #[.slice (some ⟨b,0,none⟩) a.length a.length,.func (.func 235) #[] #[]] w fun e W=>(∃ i:Int,e=.returned (.int .i64 i)/\decide (0<=i)=!(a.all fun q=>decide (XO (Z5 q)=0)))/\w=W:=by
 have D:=lh (show (a.all fun q=>decide (XO (Z5 q)=0))=XQ (fun q=>decide (XO (Z5 q)=0)) a 0 from rfl);go_enter Tryz.func290,Tryz.ntmps290
 go_wp2_with fail
 go_loopw [5,8] (fun _ i wr=>∃ k:Nat,k<=a.length/\i=.int .i64 k/\(a.all fun q=>decide (XO (Z5 q)=0))=XQ (fun q=>decide (XO (Z5 q)=0)) a k/\w=wr) (fun _ i _=>a.length - (Zq i).toNat)
 case atStart=>exact⟨0,by omega,rfl,rfl,rfl⟩
 case round =>
  obtain⟨k,j,rfl,f,rfl⟩:=hrel;have Q:=lh f;clear f;by_cases t:k<a.length
  .have h:=WU (fun q=>decide (XO (Z5 q)=0)) a k t;have g:=S k t;by_cases G:0<XO (Z5 a[k])
   .rw[ZG (by omega),XT] at h;have H:=lh (Q.o.trans h);clear h;have d:decide (0<XO (Z5 a[k]))=ZX:=ZI G;go_wp2_with (go_at_call 235;(with_reducible refine (se _ _).mono ?_);rintro e W ⟨rfl,rfl⟩)
    go_ret
    exact⟨⟨k,rfl,by rw[H.o];simp⟩,rfl⟩
   .rw[ZI (by omega),Zc] at h;have H:=lh (Q.o.trans h);clear h;have d:decide (0<XO (Z5 a[k]))=ZW:=ZG G;go_wp2_with (go_at_call 235;(with_reducible refine (se _ _).mono ?_);rintro e W ⟨rfl,rfl⟩)
    go_roundw
    case rel=>exact⟨k+1,by omega,by go_num,H.o,trivial⟩
    case measure=>simp [Zq];omega
  .have h:=Q.o.trans (WB (fun q=>decide (XO (Z5 q)=0)) a k (by omega));have H:=lh h;clear h;obtain rfl:k=a.length:=by omega
   go_wp2_with fail
   go_ret
   exact⟨⟨-1,rfl,by rw[H.o];simp⟩,rfl⟩
theorem xG(H:Strs w b a)(l:a.length<=100) :
 ZH Z8 234 #[.slice (some ⟨b,0,none⟩) a.length a.length,.func (.func 235) #[] #[]] w fun e W=>e=.returned (.bool (!(a.all fun q=>decide (XO (Z5 q)=0))))/\w=W:=by
 go_enter Tryz.func234,Tryz.ntmps234
 go_wp2_with (go_at_call 290;(with_reducible refine (xQ _ _ _ H l).mono ?_);rintro e W ⟨⟨i,rfl,h⟩,rfl⟩;have HI:=lh h;clear h)
 go_ret
 exact⟨aF (by rw[<-HI.o];first|done|simp),rfl⟩
theorem mA(m:MaxL w) :
 ZH Z8 158 #[.string s] w fun e W=>e=.returned (.bool (WM (Z5 s)))/\Z4 w.heap.size w W:=by
 have l:=ZZ s;by_cases j:22<s.size
 .have D:=lh (show WM (Z5 s)=ZW by unfold WM;rw[ZG (p:=(Z5 s).length<=22) (by omega)];simp);have E:(decide ((s.size:Int)<=22))=ZW:=by rw[ZF];omega
  clear l;go_enter Tryz.func158,Tryz.ntmps158
  go_wp2_with fail
  go_ret
  exact⟨aF D.o.symm,ZR _ _⟩
 have E:(decide ((s.size:Int)<=22))=ZX:=by rw[ZU];omega
 have o:s.size<4294967281:=by omega
 have r:s.size<=22:=by omega
 have D:=lh (show WM (Z5 s)=(YP (Z5 s)&&(Xw (Z5 s)).all fun q=>decide (XO q=0)) by unfold WM;rw[ZI (p:=(Z5 s).length<=22) (by omega),Bool.and_true]);clear l j;cases n:YP (Z5 s)
 .rw[n,XT] at D;go_enter Tryz.func158,Tryz.ntmps158
  go_wp2_with (go_at_call 32;(with_reducible refine (ez _ _ m).mono ?_);rintro e g ⟨rfl,H⟩)
  go_ret
  exact⟨aF D.o.symm,H⟩
 .rw[n,Zc] at D;go_enter Tryz.func158,Tryz.ntmps158
  go_wp2_with first|go_at_call 32;(with_reducible refine (ez _ _ m).mono ?_);rintro e g ⟨rfl,H⟩;have d:=m.below H|go_at_call 95;(with_reducible refine (ml _ _ o d).mono ?_);rintro e W ⟨a,k,f,rfl,rfl⟩;have S:=Strs.new g a 9;have h:a.length<=100:=(by omega);have i:=lh (D.o.trans (by rw[<-f,List.all_map];rfl:_=a.all fun q=>decide (XO (Z5 q)=0)));clear f|(go_at_call 234;(with_reducible refine (xG _ _ _ S h).mono ?_);rintro e W ⟨rfl,rfl⟩)
  go_ret
  exact⟨aF (by rw[i.o]),by (have z:=(H).size;exact aB)⟩
end Go.Proofs.YtnkjliahpeebjaaGreatDoor
