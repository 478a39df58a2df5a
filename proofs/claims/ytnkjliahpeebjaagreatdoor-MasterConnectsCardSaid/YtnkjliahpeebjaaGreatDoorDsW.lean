/- Catalogs. -/
import Derived.Test.YtnkjliahpeebjaaGreatDoorDsR
set_option maxHeartbeats 400000
open _root_ renaming ByteArray->Z7,List->Z5,UInt8->ZP,congrArg->YX
open Go.Proofs.Tryz renaming prog->Z6
open Go.Proofs.YtnkjliahpeebjaaGreatDoor.Ds renaming bl->Z4,bl_length->ZO,name->Zj,pieces->Y1,first->Xj,num->WH
open List renaming take_of_length_le->ZC,length_drop->X8,getElem_of_mem->Wm,getElem_set_ne->Wl
open Go.Lib renaming compareBytes->YG,join->XQ
namespace Go.Proofs.YtnkjliahpeebjaaGreatDoor
variable(d:Z5 Z7)(k b n c:Nat)(s g:Z7)(w:World)
section
open Go.RowKit
theorem yl(H:MaxL w)(j:Zj (Z4 s)=false) :
 Calls Z6 182 #[.string s] w fun e W=>e=.returned (.slice none 0 0)/\Below w.heap.size w W:=by
 go_enter Tryz.func182,Tryz.ntmps182
 go_wp2_with (go_at_call 32;(with_reducible refine (ez _ _ H).mono ?_);rintro e l ⟨rfl,h⟩)
 go_ret
 exact⟨rfl,h⟩
theorem rV(h:Zj (Z4 s)=true):s.size<=31/\1<=s.size:=by
 unfold Zj at h;simp only[Bool.and_eq_true,decide_eq_true_eq,ZO] at h
 omega
theorem xR(m:MaxL w)(o:Zj (Z4 s)=true) :
 Calls Z6 182 #[.string s] w fun e W=>∃ (d:Z5 Z7) (b:Nat),d.map Z4=Y1 (Z4 s)/\d.length<=32/\w.heap.size<=b/\b<W.heap.size/\e=.returned (.slice (some ⟨b,0,none⟩) d.length d.length)/\Strs W b d/\Below w.heap.size w W:=by
 have r:=(rV s o).1;have j:s.size<4294967281:=by omega
 go_enter Tryz.func182,Tryz.ntmps182
 go_wp2_with first|go_at_call 32;(with_reducible refine (ez _ _ m).mono ?_);rintro e l ⟨rfl,h⟩;have H:=m.below h|go_at_call 95;(with_reducible refine (ml _ _ j H).mono ?_);rintro e W ⟨d,q,p,rfl,rfl⟩;have P:=lh p;clear p
 go_ret
 exact⟨d,l.heap.size,P.o,by omega,h.size,by simp,rfl,Strs.new l d 9,by (have z:=(h).size;exact aB)⟩
theorem Di(S:Strs w b d)(o:b<w.heap.size)(p:n<=d.length)(q:n<=c)(r:(XQ (d.map Z4) [46]).length<=1000)(t:d.length<=1000) :
 Calls Z6 183 #[.slice (some ⟨b,0,none⟩) n c,.string ⟨#[46]⟩] w fun e W=>e=.returned (.string ⟨(XQ ((d.map Z4).take n) [46]).toArray⟩)/\Below w.heap.size w W:=by
 have m:=Ds.join_take (d.map Z4) [46] n;have e:(d.take n).map (·.data.toList)=(d.map Z4).take n:=by rw[List.map_take];rfl
 have h:=Tryz.strings_Join b 0 c (d.take n) ⟨#[46]⟩ w (fun j x H=>by
  have l:j<d.length:=by
   rcases Nat.lt_or_ge j d.length with h|h
   .exact h
   .rw[List.getElem?_eq_none (by simp;omega)] at H;cases H
  rw[List.getElem?_take] at H;split at H
  .rw[List.getElem?_eq_getElem l] at H;rw[Nat.zero_add,S j l,Option.some.inj H]
  .cases H) o (by simp;omega) (by simp;omega) (by rw[e];exact Nat.le_trans m (by omega))
 rw[e,List.length_take,Nat.min_eq_left p] at h;exact h
theorem Cf(h:k=0) :
 Calls Z6 183 #[.slice none k c,.string g] w fun e W=>e=.returned (.string ⟨#[]⟩)/\W=w:=by
 subst h;exact Tryz.strings_Join_none none c g w
theorem Ce(n:Int)(s:Z7)(w:World)(q:MaxL w) :
 Calls Z6 83 #[.int .i64 n,.string s] w fun e W=>e=.returned (.string ⟨(Xj n (Z4 s)).toArray⟩)/\Below w.heap.size w W:=by
 cases j:Zj (Z4 s)
 .have D:=lh (show Xj n (Z4 s)=[] by unfold Xj;rw[j];rfl);have E:(min (max n 0) 0).toNat=0:=by omega
  go_enter Tryz.func83,Tryz.ntmps83
  go_wp2_with first|(go_at_call 182;(with_reducible refine (yl _ _ q j).mono ?_);rintro e u ⟨rfl,l⟩)|(go_at_call 183;(with_reducible refine (Cf _ _ _ _ (by omega)).mono ?_);rintro e W ⟨rfl,rfl⟩)
  go_ret
  exact⟨iD (by rw[D.o]),l⟩
 .have p:(XQ (Y1 (Z4 s)) [46]).length<=1000:=by
   rw[Ds.join_pieces,ZO];have:=rV s j;omega
  have D:=lh (show Xj n (Z4 s)=XQ ((Y1 (Z4 s)).take n.toNat) [46] by unfold Xj;rw[j];rfl);go_enter Tryz.func83,Tryz.ntmps83
  go_wp2_with first|go_at_call 182;(with_reducible refine (xR _ _ q j).mono ?_);rintro e u ⟨d,b,r,v,t,m,rfl,S,l⟩;have P:=lh r;clear r|(go_at_call 183;(with_reducible refine (Di d b _ _ _ S m (by omega) (by omega) (by rw[P.o];exact p) (by omega)).mono ?_);rintro e x ⟨rfl,o⟩)
  go_ret
  refine⟨iD ?_,bt l o⟩
  rw[D.o,P.o];congr 3
  have H:=YX List.length P.o;rw[List.length_map] at H;rcases Nat.le_total n.toNat d.length with h|h
  .congr 1;omega
  .rw[ZC (by omega),ZC (by omega)]
end
end Go.Proofs.YtnkjliahpeebjaaGreatDoor
section
namespace Go.Proofs.YtnkjliahpeebjaaGreatDoor
open Go.RowKit
variable{d f:Z5 Z7}
theorem Strs.set{w:World}{b:Nat}(h:Strs w b d)(i:Nat)(m:i<d.length)(t:Z7):Strs (w.setCell ⟨b,i,none⟩ (.string t)) b (d.set i t):=fun k o=>by
 have H:k<d.length:=by simpa using o
 have j:=h i m;have l:=h k H;by_cases e:i=k
 .subst e;simp [go_sem,j]
 .rw[Wl e,<-l];have E:(i==k)=false:=by simpa using e
  simp [go_sem]
namespace Ds
theorem less_cmp:∀ a b:Z5 ZP,Op.bytesLess a b=decide (YG a b<0)
 | [],[]=>by simp [Op.bytesLess,YG]
 | [],_::_=>by simp [Op.bytesLess,YG]
 | _::_,[]=>by simp [Op.bytesLess,YG]
 | x::a,y::b=>by
   rw[Op.bytesLess,less_cmp a b];rcases kr x y with h|h|h
   .rw[jK _ _ _ _ h];simp [h]
   .subst h;rw[ln];simp [UInt8.lt_irrefl]
   .have j:¬ x<y:=fun H=>absurd (UInt8.lt_trans h H) (UInt8.lt_irrefl y)
    have l:x≠y:=fun e=>UInt8.lt_irrefl y (e ▸ h)
    rw[jJ _ _ _ _ h];simp [j,l]
def Keyed(d f:Z5 Z7)(i:Nat):Prop:=f.length=d.length/\(∀ k (h:k<f.length) (H:k<d.length),i<=k->f[k]=d[k])/\∀ k (h:k<f.length) (H:k<d.length),k<i->bl f[k]=nH (bl d[k])
theorem Keyed.start(d:Z5 Z7):Keyed d d 0:=⟨rfl,fun _ _ _ _=>rfl,fun _ _ _ h=>by omega⟩
theorem Keyed.step{i:Nat}(h:Keyed d f i)(o:i<d.length)(t:Z7)(m:bl t=nH (bl d[i])):Keyed d (f.set i t) (i+1):=by
 refine⟨by simp [h.1],fun k l H j=>?_,fun k l H j=>?_⟩
 .rw[Wl (by omega)];exact h.2.1 k (by simpa using l) H (by omega)
 .by_cases e:i=k
  .subst e;rw[List.getElem_set_self];exact m
  .rw[Wl e];exact h.2.2 k (by simpa using l) H (by omega)
theorem Keyed.done(h:Keyed d f d.length):f.map bl=(d.map bl).map nH:=by
 apply List.ext_getElem
 .simp [h.1]
 .intro k e H;simp only[List.getElem_map]
  exact h.2.2 k (by simpa using e) (by simpa using H) (by simpa using H)
end Ds
end Go.Proofs.YtnkjliahpeebjaaGreatDoor
end
section
namespace Go.Proofs.YtnkjliahpeebjaaGreatDoor
open Go.RowKit
variable(s:Z7)(a b:Z5 ZP){d f:Z5 Z7}(w:World){i:Nat}
namespace Ds
theorem at_dot(h:46 ∉ b):front (a++46::b)=a/\last (a++46::b)=b:=by
 unfold front last;rw[pieces_dot,lZ b h,List.dropLast_concat,join_pieces];exact⟨rfl,by simp⟩
theorem no_dot(s:Z5 ZP)(h:46 ∉ s):gen s=false:=by
 unfold gen front;rw[lZ s h];have:group []=false:=by decide
 simp [Lib.join_nil,this]
theorem oH(j:Nat)(h:j<s.size):s.data[j]! = s[j]:=by
 rw[getElem!_pos s.data j h];rfl
theorem last_idx:(Lib.lastIndexByte s 46=-1/\46 ∉ bl s)\/∃ i:Nat,i<s.size/\Lib.lastIndexByte s 46=i/\bl s=bl (s.extract 0 i)++46::bl (s.extract (i+1) s.size)/\46 ∉ bl (s.extract (i+1) s.size):=by
 rcases Lib.lastIdx_spec s 46 s.size with ⟨h,p⟩|⟨i,m,r,q,p⟩
 .refine .inl ⟨h,fun o=>?_⟩
  obtain⟨j,l,e⟩:=Wm o;rw[bl_length] at l;have:=p j l;rw[oH s j l,bl_get s j l,e] at this;exact this rfl
 .refine .inr ⟨i,m,r,?_,?_⟩
  .have x:bl (s.extract 0 i)=(bl s).take i:=by unfold bl;rw[Lib.extract_data];simp
   have y:bl (s.extract (i+1) s.size)=(bl s).drop (i+1):=by
    unfold bl;rw[Lib.extract_data];rw[ZC (by rw[X8,Array.length_toList];exact Nat.le_refl _)]
   have t:(bl s)[i]'(by rw[bl_length];exact m)=46:=by
    rw[oH s i m,bl_get s i m] at q;exact UInt8.toNat_inj.1 (by rw[show (46:ZP).toNat=46 from rfl];omega)
   rw[x,y];conv=>lhs;rw[<-List.take_append_drop i (bl s),List.drop_eq_getElem_cons (by rw[bl_length];exact m),t]
  .have y:bl (s.extract (i+1) s.size)=(bl s).drop (i+1):=by
    unfold bl;rw[Lib.extract_data];rw[ZC (by rw[X8,Array.length_toList];exact Nat.le_refl _)]
   rw[y];intro o;obtain⟨j,l,e⟩:=Wm o;rw[X8,bl_length] at l;have H:i+1+j<s.size:=by omega
   have:=p (i+1+j) (by omega) H;rw[oH s _ H,bl_get s _ H] at this;rw[List.getElem_drop] at e;rw[e] at this;exact this rfl
def k0(q:Z5 ZP):Z5 ZP:=if q=[42,42] then [255] else q
def Ked(d f:Z5 Z7)(i:Nat):Prop:=f.length=d.length/\(∀ k (h:k<f.length) (H:k<d.length),i<=k->f[k]=d[k])/\∀ k (h:k<f.length) (H:k<d.length),k<i->bl f[k]=k0 (bl d[k])
theorem Ked.start(d:Z5 Z7):Ked d d 0:=⟨rfl,fun _ _ _ _=>rfl,fun _ _ _ h=>by omega⟩
theorem Ked.step(h:Ked d f i)(o:i<d.length)(t:Z7)(m:bl t=k0 (bl d[i])):Ked d (f.set i t) (i+1):=by
 refine⟨by simp [h.1],fun k l H j=>?_,fun k l H j=>?_⟩
 .rw[Wl (by omega)];exact h.2.1 k (by simpa using l) H (by omega)
 .by_cases e:i=k
  .subst e;rw[List.getElem_set_self];exact m
  .rw[Wl e];exact h.2.2 k (by simpa using l) H (by omega)
theorem Ked.keep(h:Ked d f i)(m:i<d.length)(t:bl d[i]=k0 (bl d[i])):Ked d f (i+1):=by
 refine⟨h.1,fun k j H l=>h.2.1 k j H (by omega),fun k j H l=>?_⟩
 by_cases e:i=k
 .subst e;rw[h.2.1 i j H (Nat.le_refl _)];exact t
 .exact h.2.2 k j H (by omega)
theorem Ked.done(h:Ked d f d.length):f.map bl=(d.map bl).map k0:=by
 apply List.ext_getElem
 .simp [h.1]
 .intro k e H;simp only[List.getElem_map]
  exact h.2.2 k (by simpa using e) (by simpa using H) (by simpa using H)
end Ds
theorem yM(H:s.size<=1000)(h:Hid (Lib.lastIndexByte s 46=-1)) :
 Calls Z6 230 #[.string s,.int .u8 46] w fun e W=>e=.returned (.int .i64 (-1))/\w=W :=
 (Tryz.strings_LastIndexByte s 46 (by omega) w).mono fun _ _ ⟨a,b⟩=>⟨by rw[a,h.o],b.symm⟩
theorem ou(i:Nat)(H:s.size<=1000)(h:Hid (Lib.lastIndexByte s 46=i)) :
 Calls Z6 230 #[.string s,.int .u8 46] w fun e W=>e=.returned (.int .i64 i)/\w=W :=
 (Tryz.strings_LastIndexByte s 46 (by omega) w).mono fun _ _ ⟨a,b⟩=>⟨by rw[a,h.o],b.symm⟩
theorem lq(o:s.size<=1000)(q:MaxL w) :
 Calls Z6 155 #[.string s] w fun e W=>e=.returned (.tuple #[.string ⟨(Ds.splG (Z4 s)).toArray⟩,.int .i64 (Ds.splN (Z4 s)),.bool (Ds.gen (Z4 s))])/\Below w.heap.size w W:=by
 have B:=Below.refl w.heap.size w;rcases Ds.last_idx s with ⟨h,m⟩|⟨i,J,h,hcut,m⟩
 .have H:=lh h;have l:=Ds.no_dot _ m
  have D:=lh (show Ds.gen (Z4 s)=false/\Ds.splG (Z4 s)=[]/\Ds.splN (Z4 s)=0 by
   exact⟨l,by unfold Ds.splG;rw[l];rfl,by unfold Ds.splN;rw[l];rfl⟩)
  clear h m l;go_enter Tryz.func155,Tryz.ntmps155
  go_wp2_with (go_at_call 230;(with_reducible refine (yM _ _ o H).mono ?_);rintro e W ⟨rfl,rfl⟩)
  go_ret3
  exact⟨by rw[D.o.1,D.o.2.1,D.o.2.2];rfl,B⟩
 .have H:=lh h;have p:=Ds.at_dot (Z4 (s.extract 0 i)) _ m;rw[<-hcut] at p;have F:=lh p;clear h m p hcut;have I:IntKind.i64.wrap ((i:Int)+1)=(i:Int)+1:=IntWalk.i64_in _ (by omega);have v:(0:Int)<=(i:Int)+1:=by omega
  have x:(i:Int)+1<=s.size:=by omega
  have y:((i:Int)+1).toNat=i+1:=by omega
  have A:(i:Int)<=s.size:=by omega
  have C:(0:Int)<=(i:Int):=by omega
  have G:((i:Int)).toNat=i:=by omega
  cases l:Ds.group (Z4 (s.extract 0 i))
  .have D:=lh (Ds.spl_no (Z4 s) (.inr (by rw[F.o.1];exact l)));go_enter Tryz.func155,Tryz.ntmps155
   go_wp2_with (first|(go_at_call 230;(with_reducible refine (ou _ _ i o H).mono ?_);rintro e W ⟨rfl,rfl⟩)|(go_at_call 158;(with_reducible refine (mA _ _ q).mono ?_);rintro e r ⟨rfl,j⟩;have B:=Below.trans B (j.mono B.size);clear j))
   go_ret3
   exact⟨by rw[D.o.1,D.o.2.1,D.o.2.2];rfl,B⟩
  .by_cases z:WH (Z4 (s.extract (i+1) s.size))=0
   .have D:=lh (Ds.spl_no (Z4 s) (.inl (by rw[F.o.2];exact z)));have E:((WH (Z4 (s.extract (i+1) s.size)):Int)==0)=true:=by simp [z]
    clear z;go_enter Tryz.func155,Tryz.ntmps155
    go_wp2_with (first|(go_at_call 230;(with_reducible refine (ou _ _ i o H).mono ?_);rintro e W ⟨rfl,rfl⟩)|(go_at_call 158;(with_reducible refine (mA _ _ q).mono ?_);rintro e r ⟨rfl,j⟩;have B:=Below.trans B (j.mono B.size);clear j)|(go_at_call 231;(with_reducible refine (mq _ _).mono ?_);rintro e W ⟨rfl,rfl⟩))
    go_ret3
    exact⟨by rw[D.o.1,D.o.2.1,D.o.2.2];rfl,B⟩
   .have D:=lh (Ds.spl_yes (Z4 s) (by rw[F.o.2];exact z) (by rw[F.o.1];exact l));have E:((WH (Z4 (s.extract (i+1) s.size)):Int)==0)=false:=by simp;omega
    clear z;go_enter Tryz.func155,Tryz.ntmps155
    go_wp2_with (first|(go_at_call 230;(with_reducible refine (ou _ _ i o H).mono ?_);rintro e W ⟨rfl,rfl⟩)|(go_at_call 158;(with_reducible refine (mA _ _ q).mono ?_);rintro e r ⟨rfl,j⟩;have B:=Below.trans B (j.mono B.size);clear j)|(go_at_call 231;(with_reducible refine (mq _ _).mono ?_);rintro e W ⟨rfl,rfl⟩))
    go_quiet ((go_at_call 231;exact Calls.quiet_of_same ((mq _ _).mono fun _ _ ⟨a,b⟩=>⟨a,b.symm⟩)))
    have u:=lh (below_drewN B nq);clear I v x y A C G;go_wp2_with fail
    go_ret3
    refine⟨?_,u.o⟩
    rw[D.o.1,D.o.2.1,D.o.2.2,F.o.1,F.o.2];refine YX Ending.returned (YX Value.tuple ?_)
    exact YX (fun t=>#[Value.string t,Value.int .i64 _,Value.bool true]) (Ds.mk_bl _).symm
namespace Ds
end Ds
theorem MaxL.alloc{w:World}(h:MaxL w)(o:Obj):MaxL (w.alloc o):=h.below ((Below.refl _ _).alloc (Nat.le_refl _) o)
end Go.Proofs.YtnkjliahpeebjaaGreatDoor
end
