/- Catalogs. -/
import Derived.Test.YtnkjliahpeebjaaGreatDoorChecked
import Derived.Test.YtnkjliahpeebjaaGreatDoorKit
import Derived.Test.YtnkjliahpeebjaaGreatDoorDs
import Derived.Test.YtnkjliahpeebjaaGreatDoorShelf
import Derived.Laws.EntriesVeiled
set_option maxHeartbeats 400000
open _root_ renaming ByteArray->Z7,decide_eq_true_eq->ZU,decide_eq_true->ZL,decide_eq_false->ZF,decide_eq_false_iff_not->Zz
open Go.Proofs.Tryz renaming prog->Z6
open Go.Proofs.YtnkjliahpeebjaaGreatDoor.Ds renaming bl->Z4,bl_length->ZO,name->Zj,pieces->Y1,rest->WK,num->WH,bl_get->Wf,rest_next->V0,rest_end->VQ
open Bool renaming true->ZZ,false->ZW,eq_iff_iff->Zf,true_and->Yj,false_and->Xt
open Go.RowKit renaming Below->ZV,intOf->Y4
open Go.RowKit.Below renaming refl->ZM,setCell->Yb,drew->X2,alloc->Xz
open Go renaming Calls->ZJ
open Go.Value renaming string->Zh
namespace Go.Proofs.YtnkjliahpeebjaaGreatDoor
open Go.RowKit
variable(c:UInt8)(a:List Z7)(s:Z7)(b p:Nat)(w:World)
theorem mB :
 ZJ Z6 80 #[.int .u8 c.toNat] w fun e W=>e=.returned (.bool (Ds.up c))/\w=W:=by
 go_enter Tryz.func80,Tryz.ntmps80
 go_wp2
 all_goals (go_ret;exact⟨aF (by rw[Zf];simp [Ds.up];omega),rfl⟩)
theorem oT :
 ZJ Z6 181 #[.int .u8 c.toNat] w fun e W=>e=.returned (.bool (Ds.dg c))/\w=W:=by
 go_enter Tryz.func181,Tryz.ntmps181
 go_wp2
 all_goals (go_ret;exact⟨aF (by rw[Zf];simp [Ds.dg];omega),rfl⟩)
theorem oU :
 ZJ Z6 81 #[.int .u8 c.toNat] w fun e W=>e=.returned (.bool (Ds.pl c))/\w=W:=by
 cases h:Ds.up c
 all_goals
  have H:=lh h;clear h;go_enter Tryz.func81,Tryz.ntmps81
  go_wp2_with (first|(go_at_call 80;(with_reducible refine (mB _ _).mono ?_);rintro e W ⟨rfl,rfl⟩)|(go_at_call 181;(with_reducible refine (oT _ _).mono ?_);rintro e W ⟨rfl,rfl⟩))
  all_goals (go_ret;exact⟨aF (by simp_all [Ds.pl,H.o]),rfl⟩)
theorem vN :
 ZJ Z6 188 #[.int .u8 c.toNat] w fun e W=>e=.returned (.bool (Ds.ups c))/\w=W:=by
 cases h:Ds.up c
 all_goals
  go_enter Tryz.func188,Tryz.ntmps188
  go_wp2_with (go_at_call 80;(with_reducible refine (mB _ _).mono ?_);rintro e W ⟨rfl,rfl⟩)
  all_goals (go_ret;exact⟨aF (by rw[Zf];simp [Ds.ups,h] <;> omega),rfl⟩)
theorem vM :
 ZJ Z6 190 #[.int .u8 c.toNat] w fun e W=>e=.returned (.bool (Ds.pls c))/\w=W:=by
 cases h:Ds.pl c
 all_goals
  go_enter Tryz.func190,Tryz.ntmps190
  go_wp2_with (go_at_call 81;(with_reducible refine (oU _ _).mono ?_);rintro e W ⟨rfl,rfl⟩)
  all_goals (go_ret;exact⟨aF (by rw[Zf];simp [Ds.pls,h] <;> omega),rfl⟩)
theorem Dj :
 ZJ Z6 79 #[.string s,.func (.func 80) #[] #[],.func (.func 81) #[] #[]] w fun e W=>e=.returned (.bool (Ds.qual Ds.up Ds.pl (Z4 s)))/\w=W:=by
 have l:=ZO s;by_cases d:s.size<1
 have D:=lh (Ds.qual_len Ds.up Ds.pl (Z4 s) (by omega));have E:(decide ((s.size:Int)<1))=ZZ:=by rw[ZU];omega
 clear l d;rotate_left;by_cases f:8<s.size
 have D:=lh (Ds.qual_len Ds.up Ds.pl (Z4 s) (by omega));have E:(decide ((s.size:Int)<1))=ZW:=by rw[Zz];omega
 have j:(decide (8<(s.size:Int)))=ZZ:=by rw[ZU];omega
 clear l d;rotate_left;have E:(decide ((s.size:Int)<1))=ZW:=by rw[Zz];omega
 have j:(decide (8<(s.size:Int)))=ZW:=by rw[Zz];omega
 have n:0<s.size:=by omega
 have m:s.size<=8:=by omega
 have g:=Wf s 0 n;cases hF:Ds.up s[0]
 have D:=lh (Ds.qual_head Ds.up Ds.pl (Z4 s) (by omega) (by rw[<-g];exact hF));clear l d f g;rotate_left;have D:=lh (Ds.qual_rest Ds.up Ds.pl (Z4 s) (by omega) (by omega) (by rw[<-g];exact hF));have L:=lh l;clear l d f g;rotate_left
 iterate 3
  focus
   go_enter Tryz.func79,Tryz.ntmps79
   go_wp2_with (go_at_call 80;(with_reducible refine (mB _ _).mono ?_);rintro e W ⟨rfl,rfl⟩)
   go_ret
   exact⟨aF D.o.symm,rfl⟩
 go_enter Tryz.func79,Tryz.ntmps79
 go_wp2_with (go_at_call 80;(with_reducible refine (mB _ _).mono ?_);rintro e W ⟨rfl,rfl⟩)
 clear hF;go_loopw [7] (fun i wr=>∃ k:Nat,k<=s.size/\i=.int .i64 k/\Ds.qual Ds.up Ds.pl (Z4 s)=WK Ds.pl (Z4 s) k/\w=wr) (fun i _=>s.size - (Y4 i).toNat)
 case atStart=>exact⟨1,by omega,rfl,D.o,rfl⟩
 case round =>
  obtain⟨k,o,rfl,q,rfl⟩:=hrel;have Q:=lh q;clear q;by_cases t:k<s.size
  .have h:=V0 Ds.pl (Z4 s) k (by rw[L.o];exact t);rw[<-Wf s k t] at h;cases G:Ds.pl s[k]
   .rw[G] at h;have H:=lh (Q.o.trans h);clear h;go_wp2_with (go_at_call 81;(with_reducible refine (oU _ _).mono ?_);rintro e W ⟨rfl,rfl⟩)
    go_ret
    exact⟨aF H.o.symm,rfl⟩
   .rw[G] at h;have H:=lh (Q.o.trans h);clear h;go_wp2_with (go_at_call 81;(with_reducible refine (oU _ _).mono ?_);rintro e W ⟨rfl,rfl⟩)
    go_roundw
    case rel=>exact⟨k+1,by omega,by go_num,H.o,trivial⟩
    case measure=>simp [Y4];omega
  .have h:=Q.o.trans (VQ Ds.pl (Z4 s) k (by rw[L.o];omega));have H:=lh h;clear h;obtain rfl:k=s.size:=by omega
   go_wp2_with fail
   go_ret
   exact⟨aF H.o.symm,rfl⟩
theorem tz :
 ZJ Z6 79 #[.string s,.func (.func 188) #[] #[],.func (.func 190) #[] #[]] w fun e W=>e=.returned (.bool (Ds.qual Ds.ups Ds.pls (Z4 s)))/\w=W:=by
 have l:=ZO s;by_cases d:s.size<1
 have D:=lh (Ds.qual_len Ds.ups Ds.pls (Z4 s) (by omega));have E:(decide ((s.size:Int)<1))=ZZ:=by rw[ZU];omega
 clear l d;rotate_left;by_cases f:8<s.size
 have D:=lh (Ds.qual_len Ds.ups Ds.pls (Z4 s) (by omega));have E:(decide ((s.size:Int)<1))=ZW:=by rw[Zz];omega
 have j:(decide (8<(s.size:Int)))=ZZ:=by rw[ZU];omega
 clear l d;rotate_left;have E:(decide ((s.size:Int)<1))=ZW:=by rw[Zz];omega
 have j:(decide (8<(s.size:Int)))=ZW:=by rw[Zz];omega
 have n:0<s.size:=by omega
 have m:s.size<=8:=by omega
 have g:=Wf s 0 n;cases hF:Ds.ups s[0]
 have D:=lh (Ds.qual_head Ds.ups Ds.pls (Z4 s) (by omega) (by rw[<-g];exact hF));clear l d f g;rotate_left;have D:=lh (Ds.qual_rest Ds.ups Ds.pls (Z4 s) (by omega) (by omega) (by rw[<-g];exact hF));have L:=lh l;clear l d f g;rotate_left
 iterate 3
  focus
   go_enter Tryz.func79,Tryz.ntmps79
   go_wp2_with (go_at_call 188;(with_reducible refine (vN _ _).mono ?_);rintro e W ⟨rfl,rfl⟩)
   go_ret
   exact⟨aF D.o.symm,rfl⟩
 go_enter Tryz.func79,Tryz.ntmps79
 go_wp2_with (go_at_call 188;(with_reducible refine (vN _ _).mono ?_);rintro e W ⟨rfl,rfl⟩)
 clear hF;go_loopw [7] (fun i wr=>∃ k:Nat,k<=s.size/\i=.int .i64 k/\Ds.qual Ds.ups Ds.pls (Z4 s)=WK Ds.pls (Z4 s) k/\w=wr) (fun i _=>s.size - (Y4 i).toNat)
 case atStart=>exact⟨1,by omega,rfl,D.o,rfl⟩
 case round =>
  obtain⟨k,o,rfl,q,rfl⟩:=hrel;have Q:=lh q;clear q;by_cases t:k<s.size
  .have h:=V0 Ds.pls (Z4 s) k (by rw[L.o];exact t);rw[<-Wf s k t] at h;cases G:Ds.pls s[k]
   .rw[G] at h;have H:=lh (Q.o.trans h);clear h;go_wp2_with (go_at_call 190;(with_reducible refine (vM _ _).mono ?_);rintro e W ⟨rfl,rfl⟩)
    go_ret
    exact⟨aF H.o.symm,rfl⟩
   .rw[G] at h;have H:=lh (Q.o.trans h);clear h;go_wp2_with (go_at_call 190;(with_reducible refine (vM _ _).mono ?_);rintro e W ⟨rfl,rfl⟩)
    go_roundw
    case rel=>exact⟨k+1,by omega,by go_num,H.o,trivial⟩
    case measure=>simp [Y4];omega
  .have h:=Q.o.trans (VQ Ds.pls (Z4 s) k (by rw[L.o];omega));have H:=lh h;clear h;obtain rfl:k=s.size:=by omega
   go_wp2_with fail
   go_ret
   exact⟨aF H.o.symm,rfl⟩
def MaxL(w:World):Prop:=∃ m:Int,w.cell? ⟨0,0,none⟩=some (.int .i64 m)
theorem MaxL.below{w W:World}(h:MaxL w)(H:ZV w.heap.size w W):MaxL W:=h.imp fun _ h=>ai H h
theorem ml(g:s.size<4294967281)(h:MaxL w) :
 ZJ Z6 95 #[.string s,.string ⟨#[46]⟩] w fun e W=>∃ a:List Z7,a.length<=s.size+1/\a.map Z4=Y1 (Z4 s)/\e=.returned (.slice (some ⟨w.heap.size,0,none⟩) a.length a.length)/\W=w.alloc (.cells (a.map Zh).toArray 9):=by
 obtain⟨m,h⟩:=h;refine (Tryz.strings_Split s ⟨#[46]⟩ m w g h (by decide)).mono ?_
 rintro e W ⟨rfl,rfl⟩
 have H:(Lib.splitB ⟨#[46]⟩ 0 (Lib.countB s ⟨#[46]⟩) s).map Z4=Y1 (Z4 s):=by
  have:=Lib.splitB_data ⟨#[46]⟩ 0 (Lib.countB s ⟨#[46]⟩) s;rw[<-Ds.splitK_pieces];exact this
 have d:(Lib.splitB ⟨#[46]⟩ 0 (Lib.countB s ⟨#[46]⟩) s).length=Lib.countB s ⟨#[46]⟩+1:=by
  have E:=congrArg List.length H;rw[List.length_map,Ds.pieces_len] at E;rw[E,<-Ds.count_eq];rfl
 have f:(Z4 s).count 46<=(Z4 s).length:=List.count_le_length;rw[ZO,<-Ds.count_eq] at f;exact⟨_,by rw[d];exact Nat.succ_le_succ f,H,by rw[d],rfl⟩
theorem sf :
 ZJ Z6 78 #[.string s] w fun e W=>e=.returned (.bool (Ds.nameQ (Z4 s)))/\w=W:=by
 go_enter Tryz.func78,Tryz.ntmps78
 go_wp2_with (go_at_call 79;(with_reducible refine (Dj _ _).mono ?_);rintro e W ⟨rfl,rfl⟩)
 go_ret
 exact⟨rfl,rfl⟩
theorem yk(o:MaxL w) :
 ZJ Z6 77 #[.string s,.int .i64 31,.func (.func 78) #[] #[]] w fun e W=>e=.returned (.bool (Zj (Z4 s)))/\ZV w.heap.size w W:=by
 have l:=ZO s;by_cases d:s.size<1
 .have D:=lh (show Zj (Z4 s)=ZW by unfold Zj;rw[ZF (by omega)];rfl);have E:(decide ((s.size:Int)<1))=ZZ:=by rw[ZU];omega
  clear l d;go_enter Tryz.func77,Tryz.ntmps77
  go_wp2_with fail
  go_ret
  exact⟨aF D.o.symm,ZM _ _⟩
 by_cases n:31<s.size
 .have D:=lh (show Zj (Z4 s)=ZW by unfold Zj;rw[ZF (p:=(Z4 s).length<=31) (by omega)];simp);have E:(decide ((s.size:Int)<1))=ZW:=by rw[Zz];omega
  have m:(decide (31<(s.size:Int)))=ZZ:=by rw[ZU];omega
  clear l d;go_enter Tryz.func77,Tryz.ntmps77
  go_wp2_with fail
  go_ret
  exact⟨aF D.o.symm,ZM _ _⟩
 have E:(decide ((s.size:Int)<1))=ZW:=by rw[Zz];omega
 have m:(decide (31<(s.size:Int)))=ZW:=by rw[Zz];omega
 have u:s.size<4294967281:=by omega
 have D:=lh (show Zj (Z4 s)=(Y1 (Z4 s)).all Ds.nameQ by unfold Zj;rw[ZL (by omega),ZL (by omega)];rfl);clear l d n;go_enter Tryz.func77,Tryz.ntmps77
 go_wp2_with (go_at_call 95;(with_reducible refine (ml _ _ u o).mono ?_);rintro e W ⟨a,r,f,rfl,rfl⟩;have j:=lh (D.o.trans (by rw[<-f,List.all_map];rfl:_=WK (fun q=>Ds.nameQ (Z4 q)) a 0));clear f D)
 have S:=Strs.new w a 9;go_loopw [8,21] (fun q i wr=>∃ k:Nat,k<=a.length/\i=.int .i64 k/\Zj (Z4 s)=WK (fun q=>Ds.nameQ (Z4 q)) a k/\wr=w.alloc (.cells (a.map Zh).toArray 9)) (fun _ i _=>a.length - (Y4 i).toNat)
 case atStart=>exact⟨0,by omega,rfl,j.o,rfl⟩
 case round =>
  obtain⟨k,x,rfl,g,rfl⟩:=hrel;have Q:=lh g;clear g;by_cases t:k<a.length
  .have h:=V0 (fun q=>Ds.nameQ (Z4 q)) a k t;have v:=S k t;cases G:Ds.nameQ (Z4 a[k])
   .rw[G] at h;have H:=lh (Q.o.trans h);clear h;go_wp2_with (go_at_call 78;(with_reducible refine (sf _ _).mono ?_);rintro e W ⟨rfl,rfl⟩)
    go_ret
    exact⟨aF H.o.symm,by (repeat (first|exact ZM _ _|assumption|(refine X2 ?_)|(refine Xz ?_ (by simp) _)|(refine Yb ?_ (by simp) _)))⟩
   .rw[G] at h;have H:=lh (Q.o.trans h);clear h;go_wp2_with (go_at_call 78;(with_reducible refine (sf _ _).mono ?_);rintro e W ⟨rfl,rfl⟩)
    go_roundw
    case rel=>exact⟨k+1,by omega,by go_num,H.o,trivial⟩
    case measure=>simp [Y4];omega
  .have h:=Q.o.trans (VQ (fun q=>Ds.nameQ (Z4 q)) a k (by omega));have H:=lh h;clear h;obtain rfl:k=a.length:=by omega
   go_wp2_with fail
   go_ret
   exact⟨aF H.o.symm,by (repeat (first|exact ZM _ _|assumption|(refine X2 ?_)|(refine Xz ?_ (by simp) _)|(refine Yb ?_ (by simp) _)))⟩
theorem ez(H:MaxL w) :
 ZJ Z6 32 #[.string s] w fun e W=>e=.returned (.bool (Zj (Z4 s)))/\ZV w.heap.size w W:=by
 go_enter Tryz.func32,Tryz.ntmps32
 go_wp2_with (go_at_call 77;(with_reducible refine (yk _ _ H).mono ?_);rintro e d ⟨rfl,h⟩)
 go_ret
 exact⟨rfl,h⟩
theorem tA(f:MaxL w)(n:w.cell? ⟨p,0,none⟩=some (.func (.func 188) #[] #[])) :
 ZJ Z6 189 #[.string s,.pointer (some ⟨p,0,none⟩)] w fun e W=>e=.returned (.bool (Ds.patQ (Z4 s)))/\w=W:=by
 have l:=ZO s;by_cases H:s=⟨#[42,42]⟩
 .have d:=(Ds.bl_eq s [42,42]).1 H;have D:=lh (show Ds.patQ (Z4 s)=ZZ by unfold Ds.patQ;rw[ZL d];rfl);clear l d;subst H;go_enter Tryz.func189,Tryz.ntmps189
  go_wp2_with fail
  go_ret
  exact⟨aF D.o.symm,rfl⟩
 have D:=lh (show Ds.patQ (Z4 s)=(Ds.qual Ds.ups Ds.pls (Z4 s)&&!Ds.ss (Z4 s)) by unfold Ds.patQ;rw[ZF (fun h=>H ((Ds.bl_eq s [42,42]).2 h))];rfl);have i:=Ds.bl_beq s [42,42] H;clear H;cases q:Ds.qual Ds.ups Ds.pls (Z4 s)
 .rw[q] at D;clear l;go_enter Tryz.func189,Tryz.ntmps189
  go_wp2_with (go_at_call 79;(with_reducible refine (tz _ _).mono ?_);rintro e W ⟨rfl,rfl⟩)
  go_ret
  exact⟨aF D.o.symm,rfl⟩
 .rw[q] at D;have j:=Ds.qual_le _ _ _ q;have g:s.size<4294967281:=by omega
  clear l j;obtain⟨m,f⟩:=f;have k:Lib.contains s.data.toList [42,42]=Ds.ss (Z4 s):=Ds.contains_ss _;go_enter Tryz.func189,Tryz.ntmps189
  go_wp2_with (first|(go_at_call 79;(with_reducible refine (tz _ _).mono ?_);rintro e W ⟨rfl,rfl⟩)|(go_at_call 191;(with_reducible refine (Tryz.strings_Contains _ _ _ _ g f).mono ?_);rintro e W ⟨rfl,rfl⟩))
  go_ret
  exact⟨aF (D.o.symm),rfl⟩
theorem za(n:MaxL w)(m:w.cell? ⟨p,0,none⟩=some (.func (.func 188) #[] #[])) :
 ZJ Z6 77 #[.string s,.int .i64 31,.func (.func 189) #[] #[.pointer (some ⟨p,0,none⟩)]] w fun e W=>e=.returned (.bool (Ds.pat (Z4 s)))/\ZV w.heap.size w W:=by
 have j:=ZO s;by_cases g:s.size<1
 .have D:=lh (show Ds.pat (Z4 s)=ZW by unfold Ds.pat;rw[ZF (by omega)];rfl);have E:(decide ((s.size:Int)<1))=ZZ:=by rw[ZU];omega
  clear j g;go_enter Tryz.func77,Tryz.ntmps77
  go_wp2_with fail
  go_ret
  exact⟨aF D.o.symm,ZM _ _⟩
 by_cases x:31<s.size
 .have D:=lh (show Ds.pat (Z4 s)=ZW by unfold Ds.pat;rw[ZF (p:=(Z4 s).length<=31) (by omega)];simp);have E:(decide ((s.size:Int)<1))=ZW:=by rw[Zz];omega
  have v:(decide (31<(s.size:Int)))=ZZ:=by rw[ZU];omega
  clear j g;go_enter Tryz.func77,Tryz.ntmps77
  go_wp2_with fail
  go_ret
  exact⟨aF D.o.symm,ZM _ _⟩
 have E:(decide ((s.size:Int)<1))=ZW:=by rw[Zz];omega
 have v:(decide (31<(s.size:Int)))=ZW:=by rw[Zz];omega
 have z:s.size<4294967281:=by omega
 have D:=lh (show Ds.pat (Z4 s)=(Y1 (Z4 s)).all Ds.patQ by unfold Ds.pat;rw[ZL (by omega),ZL (by omega)];rfl);clear j g x;go_enter Tryz.func77,Tryz.ntmps77
 go_wp2_with (go_at_call 95;(with_reducible refine (ml _ _ z n).mono ?_);rintro e W ⟨a,y,o,rfl,rfl⟩;have u:=lh (D.o.trans (by rw[<-o,List.all_map];rfl:_=WK (fun q=>Ds.patQ (Z4 q)) a 0));clear o D)
 have S:=Strs.new w a 9;have f:MaxL (w.alloc (.cells (a.map Zh).toArray 9)):=n.below (by (repeat (first|exact ZM _ _|assumption|(refine X2 ?_)|(refine Xz ?_ (by simp) _)|(refine Yb ?_ (by simp) _))));have d:(w.alloc (.cells (a.map Zh).toArray 9)).cell? ⟨p,0,none⟩=some (.func (.func 188) #[] #[]):=ai (by (repeat (first|exact ZM _ _|assumption|(refine X2 ?_)|(refine Xz ?_ (by simp) _)|(refine Yb ?_ (by simp) _)))) m;clear m;go_loopw [8,21] (fun q i wr=>∃ k:Nat,k<=a.length/\i=.int .i64 k/\Ds.pat (Z4 s)=WK (fun q=>Ds.patQ (Z4 q)) a k/\wr=w.alloc (.cells (a.map Zh).toArray 9)) (fun _ i _=>a.length - (Y4 i).toNat)
 case atStart=>exact⟨0,by omega,rfl,u.o,rfl⟩
 case round =>
  obtain⟨k,A,rfl,r,rfl⟩:=hrel;have Q:=lh r;clear r;by_cases t:k<a.length
  .have h:=V0 (fun q=>Ds.patQ (Z4 q)) a k t;have l:=S k t;cases G:Ds.patQ (Z4 a[k])
   .rw[G] at h;have H:=lh (Q.o.trans h);clear h;go_wp2_with (go_at_call 189;(with_reducible refine (tA _ p _ f d).mono ?_);rintro e W ⟨rfl,rfl⟩)
    go_ret
    exact⟨aF H.o.symm,by (repeat (first|exact ZM _ _|assumption|(refine X2 ?_)|(refine Xz ?_ (by simp) _)|(refine Yb ?_ (by simp) _)))⟩
   .rw[G] at h;have H:=lh (Q.o.trans h);clear h;go_wp2_with (go_at_call 189;(with_reducible refine (tA _ p _ f d).mono ?_);rintro e W ⟨rfl,rfl⟩)
    go_roundw
    case rel=>exact⟨k+1,by omega,by go_num,H.o,trivial⟩
    case measure=>simp [Y4];omega
  .have h:=Q.o.trans (VQ (fun q=>Ds.patQ (Z4 q)) a k (by omega));have H:=lh h;clear h;obtain rfl:k=a.length:=by omega
   go_wp2_with fail
   go_ret
   exact⟨aF H.o.symm,by (repeat (first|exact ZM _ _|assumption|(refine X2 ?_)|(refine Xz ?_ (by simp) _)|(refine Yb ?_ (by simp) _)))⟩
theorem Gu(H:MaxL w) :
 ZJ Z6 89 #[.string s] w fun e W=>e=.returned (.bool (Ds.pat (Z4 s)))/\ZV w.heap.size w W:=by
 go_enter Tryz.func89,Tryz.ntmps89
 go_wp2_with (go_at_call 77;(with_reducible refine (za _ _ _ (H.below (by (repeat (first|exact ZM _ _|assumption|(refine X2 ?_)|(refine Xz ?_ (by simp) _)|(refine Yb ?_ (by simp) _))))) (by simp [go_sem])).mono ?_);rintro e d ⟨rfl,h⟩)
 go_ret
 exact⟨rfl,(Xz (ZM _ _) (Nat.le_refl _) _).trans (h.mono (by simp))⟩
theorem mq :
 ZJ Z6 231 #[.string s] w fun e W=>e=.returned (.int .i64 (WH (Z4 s)))/\w=W:=by
 have l:=ZO s;by_cases z:s.size=8
 rotate_left
 .have D:=lh (show WH (Z4 s)=0 by unfold WH;rw[if_neg (by omega)]);have E:((s.size:Int) != 8)=ZZ:=by simp;omega
  clear l z;go_enter Tryz.func231,Tryz.ntmps231
  go_wp2_with fail
  go_ret
  exact⟨gM (by rw[D.o];rfl),rfl⟩
 have y:0<s.size:=by omega
 have j:=Wf s 0 y;by_cases H:s[0].toNat=71
 rotate_left
 .have D:=lh (show WH (Z4 s)=0 by
   unfold WH;rw[if_neg];rintro ⟨_,h,_⟩;rw[List.getElem?_eq_getElem (by omega),<-j] at h;rw[Option.some.inj h] at H;exact H rfl)
  have E:((s[0].toNat:Int) != 71)=ZZ:=by simp;omega
  clear l j H;go_enter Tryz.func231,Tryz.ntmps231
  go_wp2_with fail
  go_ret
  exact⟨gM (by rw[D.o];rfl),rfl⟩
 have A:((s[0].toNat:Int) != 71)=ZW:=by simp [H]
 have d:(Z4 s)[0]?=some 71:=by
  rw[List.getElem?_eq_getElem (by omega),<-j];exact congrArg some (UInt8.toNat_inj.1 H)
 clear H j
 have x:(s.extract 5 8).toList=(Z4 s).drop 5:=by
  rw[ByteArray.toList_eq,Lib.extract_data];simp only[Z4]
  rw[List.take_of_length_le (by rw[List.length_drop,Array.length_toList];show s.size - 5<=_;omega)]
 by_cases V:(Z4 s).drop 5=[86,48,48]
 rotate_left
 .have D:=lh (show WH (Z4 s)=0 by
   unfold WH;rw[if_neg];rintro ⟨_,_,h,_⟩;exact V h)
  have E:((s.extract 5 8).toList==[86,48,48])=ZW:=by rw[x,Bool.eq_false_iff];intro h;exact V (by simpa using h)
  clear l x V d;go_enter Tryz.func231,Tryz.ntmps231
  go_wp2_with fail
  go_ret
  exact⟨gM (by rw[D.o];rfl),rfl⟩
 have E:((s.extract 5 8).toList==[86,48,48])=ZZ:=by rw[x,V];rfl
 have f:(Z4 s).length=8:=by omega
 have D:=lh (show WH (Z4 s)=if WK Ds.dg (Ds.mid (Z4 s)) 0=ZZ then Ds.nv (Z4 s) 4 else 0 by
  unfold WH;simp only[f,d,V,true_and])
 have L:=lh f;clear l x V d f;go_enter Tryz.func231,Tryz.ntmps231
 go_wp2_with fail
 go_loopw [3,4] (fun n i wr=>∃ k v:Nat,k<=4/\v=Ds.nv (Z4 s) k/\n=.int .i64 v/\i=.int .i64 (k+1)/\WK Ds.dg (Ds.mid (Z4 s)) 0=WK Ds.dg (Ds.mid (Z4 s)) k/\w=wr) (fun _ i _=>6 - (Y4 i).toNat)
 case atStart=>exact⟨0,0,by omega,rfl,rfl,rfl,rfl,rfl⟩
 case round =>
  obtain⟨k,v,G,o,rfl,rfl,u,rfl⟩:=hrel;have F:v<=10000000000:=by rw[o];exact (Ds.nv_bound _ _).1
  have q:=lh o;have Q:=lh u;clear o u;by_cases t:k<4
  .have g:k+1<s.size:=by omega
   have r:=V0 Ds.dg (Ds.mid (Z4 s)) k (by rw[Ds.mid_length _ L.o];exact t);rw[Ds.mid_get _ L.o k t,<-Wf s (k+1) g] at r;cases H:Ds.dg s[k+1]
   .rw[H] at r;have R:=lh (Q.o.trans r);clear r;go_wp2_with (go_at_call 181;(with_reducible refine (oT _ _).mono ?_);rintro e W ⟨rfl,rfl⟩)
    go_ret
    exact⟨gM (by rw[D.o,R.o];rfl),rfl⟩
   .rw[H] at r;have R:=lh (Q.o.trans r);clear r;obtain⟨B,C⟩:=Ds.dg_bounds _ H;have m:=Ds.nv_next (Z4 s) L.o k t;rw[<-q.o,<-Wf s (k+1) g] at m;have N:=lh m;clear m;go_wp2_with (go_at_call 181;(with_reducible refine (oT _ _).mono ?_);rintro e W ⟨rfl,rfl⟩)
    go_roundw
    case rel=>exact⟨k+1,_,by omega,N.o.symm,by go_num,by go_num,R.o,trivial⟩
    case measure=>simp [Y4];omega
  .obtain rfl:k=4:=by omega
   have r:=Q.o.trans (VQ Ds.dg (Ds.mid (Z4 s)) 4 (by rw[Ds.mid_length _ L.o];omega));have R:=lh r;clear r;go_wp2_with fail
   go_ret
   exact⟨gM (by rw[D.o,R.o,q.o];rfl),rfl⟩
theorem se :
 ZJ Z6 235 #[.string s] w fun e W=>e=.returned (.bool (decide (0<WH (Z4 s))))/\w=W:=by
 go_enter Tryz.func235,Tryz.ntmps235
 go_wp2_with (go_at_call 231;(with_reducible refine (mq _ _).mono ?_);rintro e W ⟨rfl,rfl⟩)
 go_ret
 exact⟨aF (by simp),rfl⟩
theorem xQ(S:Strs w b a)(l:a.length<=100) :
 ZJ Z6 290 #[.slice (some ⟨b,0,none⟩) a.length a.length,.func (.func 235) #[] #[]] w fun e W=>(∃ i:Int,e=.returned (.int .i64 i)/\decide (0<=i)=!(a.all fun q=>decide (WH (Z4 q)=0)))/\w=W:=by
 have D:=lh (show (a.all fun q=>decide (WH (Z4 q)=0))=WK (fun q=>decide (WH (Z4 q)=0)) a 0 from rfl);go_enter Tryz.func290,Tryz.ntmps290
 go_wp2_with fail
 go_loopw [5,8] (fun _ i wr=>∃ k:Nat,k<=a.length/\i=.int .i64 k/\(a.all fun q=>decide (WH (Z4 q)=0))=WK (fun q=>decide (WH (Z4 q)=0)) a k/\w=wr) (fun _ i _=>a.length - (Y4 i).toNat)
 case atStart=>exact⟨0,by omega,rfl,rfl,rfl⟩
 case round =>
  obtain⟨k,j,rfl,f,rfl⟩:=hrel;have Q:=lh f;clear f;by_cases t:k<a.length
  .have h:=V0 (fun q=>decide (WH (Z4 q)=0)) a k t;have g:=S k t;by_cases G:0<WH (Z4 a[k])
   .rw[ZF (by omega),Xt] at h;have H:=lh (Q.o.trans h);clear h;have d:decide (0<WH (Z4 a[k]))=ZZ:=ZL G;go_wp2_with (go_at_call 235;(with_reducible refine (se _ _).mono ?_);rintro e W ⟨rfl,rfl⟩)
    go_ret
    exact⟨⟨k,rfl,by rw[H.o];simp⟩,rfl⟩
   .rw[ZL (by omega),Yj] at h;have H:=lh (Q.o.trans h);clear h;have d:decide (0<WH (Z4 a[k]))=ZW:=ZF G;go_wp2_with (go_at_call 235;(with_reducible refine (se _ _).mono ?_);rintro e W ⟨rfl,rfl⟩)
    go_roundw
    case rel=>exact⟨k+1,by omega,by go_num,H.o,trivial⟩
    case measure=>simp [Y4];omega
  .have h:=Q.o.trans (VQ (fun q=>decide (WH (Z4 q)=0)) a k (by omega));have H:=lh h;clear h;obtain rfl:k=a.length:=by omega
   go_wp2_with fail
   go_ret
   exact⟨⟨-1,rfl,by rw[H.o];simp⟩,rfl⟩
theorem xG(H:Strs w b a)(l:a.length<=100) :
 ZJ Z6 234 #[.slice (some ⟨b,0,none⟩) a.length a.length,.func (.func 235) #[] #[]] w fun e W=>e=.returned (.bool (!(a.all fun q=>decide (WH (Z4 q)=0))))/\w=W:=by
 go_enter Tryz.func234,Tryz.ntmps234
 go_wp2_with (go_at_call 290;(with_reducible refine (xQ _ _ _ H l).mono ?_);rintro e W ⟨⟨i,rfl,h⟩,rfl⟩;have HI:=lh h;clear h)
 go_ret
 exact⟨aF (by rw[<-HI.o];first|done|simp),rfl⟩
theorem mA(m:MaxL w) :
 ZJ Z6 158 #[.string s] w fun e W=>e=.returned (.bool (Ds.group (Z4 s)))/\ZV w.heap.size w W:=by
 have l:=ZO s;by_cases j:22<s.size
 .have D:=lh (show Ds.group (Z4 s)=ZW by unfold Ds.group;rw[ZF (p:=(Z4 s).length<=22) (by omega)];simp);have E:(decide ((s.size:Int)<=22))=ZW:=by rw[Zz];omega
  clear l;go_enter Tryz.func158,Tryz.ntmps158
  go_wp2_with fail
  go_ret
  exact⟨aF D.o.symm,ZM _ _⟩
 have E:(decide ((s.size:Int)<=22))=ZZ:=by rw[ZU];omega
 have o:s.size<4294967281:=by omega
 have r:s.size<=22:=by omega
 have D:=lh (show Ds.group (Z4 s)=(Zj (Z4 s)&&(Y1 (Z4 s)).all fun q=>decide (WH q=0)) by unfold Ds.group;rw[ZL (p:=(Z4 s).length<=22) (by omega),Bool.and_true]);clear l j;cases n:Zj (Z4 s)
 .rw[n,Xt] at D;go_enter Tryz.func158,Tryz.ntmps158
  go_wp2_with (go_at_call 32;(with_reducible refine (ez _ _ m).mono ?_);rintro e g ⟨rfl,H⟩)
  go_ret
  exact⟨aF D.o.symm,H⟩
 .rw[n,Yj] at D;go_enter Tryz.func158,Tryz.ntmps158
  go_wp2_with first|go_at_call 32;(with_reducible refine (ez _ _ m).mono ?_);rintro e g ⟨rfl,H⟩;have d:=m.below H|go_at_call 95;(with_reducible refine (ml _ _ o d).mono ?_);rintro e W ⟨a,k,f,rfl,rfl⟩;have S:=Strs.new g a 9;have h:a.length<=100:=(by omega);have i:=lh (D.o.trans (by rw[<-f,List.all_map];rfl:_=a.all fun q=>decide (WH (Z4 q)=0)));clear f|(go_at_call 234;(with_reducible refine (xG _ _ _ S h).mono ?_);rintro e W ⟨rfl,rfl⟩)
  go_ret
  exact⟨aF (by rw[i.o]),by (have z:=(H).size;exact aB)⟩
end Go.Proofs.YtnkjliahpeebjaaGreatDoor
