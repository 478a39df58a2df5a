/- Catalogs. -/
import Derived.Test.YtefcmdmfgdcpmaaGreatDoorEc
set_option maxRecDepth 8000
set_option maxHeartbeats 40000000
namespace Go.Proofs.YtefcmdmfgdcpmaaGreatDoor
open Go.RowKit
theorem ztb(n:Int)(w:World)(hT:Tab w) :
  Calls Tryz.prog 204 #[.int .i64 n] w fun e w'=>e=.returned (.bool (!Cal.isDay n))∧Below w.heap.size w w':=by
 have hf:=zkz n w hT;have hy:=Cal.fmt_yes n;have hn:=Cal.fmt_no n;cases h:Cal.isDay n
 · rw[hn h] at hf;clear hy hn h;go_enter Tryz.func204,Tryz.ntmps204
   go_wp2_with ((with_reducible refine hf.mono ?_);rintro e w' ⟨rfl,hb⟩)
   go_ret
   exact⟨rfl,hb⟩
 · have hz:(⟨(Cal.fmt n).toArray⟩:ByteArray).toList.isEmpty=false:=zbH _ (by rw[hy h];simp only[ByteArray.size,List.size_toArray,List.length_append,Cal.ld_length];decide);generalize (⟨(Cal.fmt n).toArray⟩:ByteArray)=t at hf hz;clear hy hn h;go_enter Tryz.func204,Tryz.ntmps204
   go_wp2_with ((with_reducible refine hf.mono ?_);rintro e w' ⟨rfl,hb⟩)
   go_ret
   exact⟨rfl,hb⟩
theorem zlz(l:List Int):Vp.days l=Ds.rest Cal.isDay l 0:=by unfold Vp.days Ds.rest;rfl
theorem zps(b c:Nat)(l:List Int)(w:World)(hT:Tab w)(hl:l.length<=1000)(hb:b<w.heap.size)(hc:∀ k (h:k<l.length),w.cell? ⟨b,k,none⟩=some (.int .i64 l[k])) :
  Calls Tryz.prog 254 #[.slice (some ⟨b,0,none⟩) l.length c,.func (.func 204) #[] #[]] w fun e w'=>∃ i:Int,e=.returned (.int .i64 i)∧decide (0<=i)=!Vp.days l∧Below w.heap.size w w':=by
 rw[zlz];have HC:=lh hc;clear hc;go_enter Tryz.func254,Tryz.ntmps254
 go_wp2_with fail
 go_loopw [5,8] (fun _ i wr=>∃ k:Nat,k<=l.length∧i=.int .i64 k∧Ds.rest Cal.isDay l 0=Ds.rest Cal.isDay l k∧Below w.heap.size w wr) (fun _ i _=>l.length - (intOf i).toNat)
 case atStart=>exact⟨0,by omega,rfl,rfl,Below.refl _ _⟩
 case round =>
  obtain⟨k,hk,rfl,hq,hB⟩:=hrel;have HQ:=lh hq;clear hq;by_cases hlt:k<l.length
  · have hr:=Ds.rest_next Cal.isDay l k hlt;have hc:=(hB.cell (p:=⟨b,k,none⟩) hb).trans (HC.out k hlt);have hd:=ztb l[k] wr (hT.below hB);cases hG:Cal.isDay l[k]
    · rw[hG] at hr hd;have HR:=lh (HQ.out.trans hr);have HD:=lh hd;clear hr hd;go_wp2_with (go_at_call 204;(with_reducible refine HD.out.mono ?_);rintro e w2 ⟨rfl,hb2⟩;have B2:=bt hB hb2;clear hb2)
      go_ret
      exact⟨k,rfl,by rw[HR.out];simp,B2⟩
    · rw[hG] at hr hd;have HR:=lh (HQ.out.trans hr);have HD:=lh hd;clear hr hd;go_wp2_with (go_at_call 204;(with_reducible refine HD.out.mono ?_);rintro e w2 ⟨rfl,hb2⟩;have B2:=bt hB hb2;clear hb2)
      go_roundw
      case rel=>exact⟨k+1,by omega,by go_num,HR.out,B2⟩
      case measure=>simp [intOf];omega
  · have hr:=HQ.out.trans (Ds.rest_end Cal.isDay l k (by omega));have HR:=lh hr;clear hr;go_wp2_with fail
    go_ret
    exact⟨-1,rfl,by rw[HR.out];simp,hB⟩
theorem zu9(b c:Nat)(l:List Int)(w:World)(hT:Tab w)(hl:l.length<=1000)(hb:b<w.heap.size)(hc:∀ k (h:k<l.length),w.cell? ⟨b,k,none⟩=some (.int .i64 l[k])) :
  Calls Tryz.prog 143 #[.slice (some ⟨b,0,none⟩) l.length c] w fun e w'=>e=.returned (.bool (Vp.days l))∧Below w.heap.size w w':=by
 have hi:=zps b c l w hT hl hb hc
 have hcf:Calls Tryz.prog 203 #[.slice (some ⟨b,0,none⟩) l.length c,.func (.func 204) #[] #[]] w fun e w'=>e=.returned (.bool (!Vp.days l))∧Below w.heap.size w w':=by
  clear hc;go_enter Tryz.func203,Tryz.ntmps203
  go_wp2_with (go_at_call 254;(with_reducible refine hi.mono ?_);rintro e w' ⟨i,rfl,hi,hb⟩;have HI:=lh hi;clear hi)
  go_ret
  exact⟨zaF (by rw[<-HI.out];first|done|simp),hb⟩
 clear hi hc;generalize Vp.days l=z at hcf ⊢;go_enter Tryz.func143,Tryz.ntmps143
 go_wp2_with (go_at_call 203;(with_reducible refine hcf.mono ?_);rintro e w' ⟨rfl,hb⟩)
 go_ret
 exact⟨zaF (by simp),hb⟩
theorem zkZ(ev:Operand->Value)(w:World)(zs:Array Value)(t:TypeId)(dst x y t' pos af gd)(h0:zs.size=21)(h1:zbA (ev x)=true)(h2:za0 (ev x)=w.heap.size)(h3:zbC (ev y)=true)(h4:(zaK (ev y)).size=21)(h5:zaM (zaK (ev y)).toList=true) :
  (execOp ev ⟨dst,.store 37 x y,t',pos,af,gd⟩).run Tryz.prog (w.alloc (.cells zs t))=.ok .skip (w.alloc (.cells (zaK (ev y)) t)) :=
 zcb ev w _ 20 (by kernel_rfl) zs t dst x y t' pos af gd h0 h1 h2 h3 h4 h5
theorem ziE(e:En):zaM e.dat.toList=true:=by
 unfold En.dat;simp [zaf,zaj,zaA,zak,zax]
def DV(w:World)(cs ds:Array Value)(wr:World):Prop:=Below w.heap.size w wr∧row wr w.heap.size=cs∧row wr (w.heap.size+1)=ds∧w.heap.size+2<=wr.heap.size
theorem DV.bel{w wr:World}(cs ds:Array Value)(h:DV w cs ds wr):Below w.heap.size w wr:=h.1
theorem DV.new(w:World)(cs ds:Array Value)(t t':TypeId):DV w cs ds ((w.alloc (.cells cs t)).alloc (.cells ds t')):=by
 have s1:(w.alloc (.cells cs t)).heap.size=w.heap.size+1:=by simp
 refine⟨by exact zbo,zcP (t:=t) (fr:=(0,0)) ((heap_alloc_old _ _ (by simp)).trans (heap_alloc_new w _)),?_,by simp⟩
 have:=heap_alloc_new (w.alloc (.cells cs t)) (.cells ds t');rw[s1] at this;exact zcP this
theorem DV.below{w wr w2:World}{cs ds:Array Value}(h:DV w cs ds wr)(hb:Below wr.heap.size wr w2):DV w cs ds w2:=by
 obtain⟨h1,h2,h3,h4⟩:=h;have hz:=hb.size;refine⟨bt h1 hb,?_,?_,by omega⟩
 · unfold row at *;rw[hb.block _ (by omega)];exact h2
 · unfold row at *;rw[hb.block _ (by omega)];exact h3
theorem DV.alloc{w wr:World}{cs ds:Array Value}(h:DV w cs ds wr)(o:Obj):DV w cs ds (wr.alloc o):=h.below ((Below.refl _ _).alloc (Nat.le_refl _) o)
theorem DV.e{w wr:World}{cs ds:Array Value}(h:DV w cs ds wr)(o:Nat)(v:Value)(hv:cs[o]?=some v):wr.cell? ⟨w.heap.size,o,none⟩=some v:=zah h.2.1 o v hv
theorem DV.d{w wr:World}{cs ds:Array Value}(h:DV w cs ds wr)(o:Nat)(v:Value)(hv:ds[o]?=some v):wr.cell? ⟨w.heap.size+1,o,none⟩=some v:=zah h.2.2.1 o v hv
theorem within11(n0 n1 n2 n3 n4 n5 n6 n7 n8 n9 n10:Int)(t:TypeId)(W:World) :
  Calls Tryz.prog 81 #[.int .i64 0,.int .i64 1099511627776,.slice (some ⟨W.heap.size,0,none⟩) 11 11] (W.alloc (.cells #[.int .i64 n0,.int .i64 n1,.int .i64 n2,.int .i64 n3,.int .i64 n4,.int .i64 n5,.int .i64 n6,.int .i64 n7,.int .i64 n8,.int .i64 n9,.int .i64 n10] t)) fun e w'=>e=.returned (.bool (Vp.rng 0 1099511627776 [n0,n1,n2,n3,n4,n5,n6,n7,n8,n9,n10]))∧(W.alloc (.cells #[.int .i64 n0,.int .i64 n1,.int .i64 n2,.int .i64 n3,.int .i64 n4,.int .i64 n5,.int .i64 n6,.int .i64 n7,.int .i64 n8,.int .i64 n9,.int .i64 n10] t))=w':=by
 refine zij 0 1099511627776 W.heap.size 11 [n0,n1,n2,n3,n4,n5,n6,n7,n8,n9,n10] _ (by simp) (by simp) (fun j hj=>?_)
 rw[cell_of_row _ W.heap.size (0+j) _ t (0,0) (heap_alloc_new W _)];have hj:j<11:=hj;rcases (by omega:j=0∨j=1∨j=2∨j=3∨j=4∨j=5∨j=6∨j=7∨j=8∨j=9∨j=10) with rfl|rfl|rfl|rfl|rfl|rfl|rfl|rfl|rfl|rfl|rfl <;> rfl
theorem within1n(lo hi n:Int)(t:TypeId)(W:World)(b:Nat)(hb:b=W.heap.size) :
  Calls Tryz.prog 81 #[.int .i64 lo,.int .i64 hi,.slice (some ⟨b,0,none⟩) 1 1] (W.alloc (.cells #[.int .i64 n] t)) fun e w'=>e=.returned (.bool (Vp.rng lo hi [n]))∧(W.alloc (.cells #[.int .i64 n] t))=w' :=
 zcV lo hi n b _ (by subst hb;simp [go_sem])
theorem zgq(l:List Int)(k:Nat)(hk:k<l.length)(h:Vp.altAt l k=false):Vp.alts l=false:=by
 rw[Bool.eq_false_iff];intro e;rw[zfa e k hk] at h;cases h
theorem znQ(l:List Int)(h:∀ j,j<l.length->Vp.altAt l j=true):Vp.alts l=true:=by
 unfold Vp.alts Ds.rest;simpa using h
theorem zle(l:List Int)(k:Nat)(hk:k<l.length)(n:Int)(hn:n=l[k]):Vp.altAt l k=(decide (1<=n)&&decide (n<=1099511627776)&&(decide (k=0) || decide (l.getD (k - 1) 0<n))):=by
 unfold Vp.altAt;rw[show l.getD k 0=n by rw[hn,List.getD_eq_getElem?_getD,List.getElem?_eq_getElem hk];rfl]
attribute [local go_sem ↓] zew zkZ
attribute [local go_sem] zbG zap zal zae zaq zai zaw zao zas zan zaa zbU zb1 ziE zbk
theorem zm0(s:ByteArray):(s.toList.isEmpty=true∧(Ds.bl s).isEmpty=true)∨(s.toList.isEmpty=false∧(Ds.bl s).isEmpty=false):=by
 by_cases h0:s.size=0
 · exact Or.inl ⟨zb7 _ h0,by rw[List.isEmpty_iff_length_eq_zero,Ds.bl_length];exact h0⟩
 · exact Or.inr ⟨zbH _ (by omega),by rw[Bool.eq_false_iff,Ne,List.isEmpty_iff_length_eq_zero,Ds.bl_length];exact h0⟩
theorem zn1(x0 x1 x2 x3 x4 vb x5 ob x6 x7:Bool):x0=false∨x0=true∧x1=false∨x0=true∧x1=true∧x2=false∨x0=true∧x1=true∧x2=true∧x3=false∨x0=true∧x1=true∧x2=true∧x3=true∧x4=false∨x0=true∧x1=true∧x2=true∧x3=true∧x4=true∧vb=false∧x5=false∨x0=true∧x1=true∧x2=true∧x3=true∧x4=true∧vb=true∧ob=false∧x6=false∨x0=true∧x1=true∧x2=true∧x3=true∧x4=true∧vb=true∧ob=true∧x7=false∨x0=true∧x1=true∧x2=true∧x3=true∧x4=true∧vb=true∧ob=true∧x7=true∨x0=true∧x1=true∧x2=true∧x3=true∧x4=true∧vb=true∧ob=false∧x6=true∧x7=false∨x0=true∧x1=true∧x2=true∧x3=true∧x4=true∧vb=true∧ob=false∧x6=true∧x7=true∨x0=true∧x1=true∧x2=true∧x3=true∧x4=true∧vb=false∧x5=true∧ob=false∧x6=false∨x0=true∧x1=true∧x2=true∧x3=true∧x4=true∧vb=false∧x5=true∧ob=true∧x7=false∨x0=true∧x1=true∧x2=true∧x3=true∧x4=true∧vb=false∧x5=true∧ob=true∧x7=true∨x0=true∧x1=true∧x2=true∧x3=true∧x4=true∧vb=false∧x5=true∧ob=false∧x6=true∧x7=false∨x0=true∧x1=true∧x2=true∧x3=true∧x4=true∧vb=false∧x5=true∧ob=false∧x6=true∧x7=true:=by
 cases x0 <;> cases x1 <;> cases x2 <;> cases x3 <;> cases x4 <;> cases vb <;> cases x5 <;> cases ob <;> cases x6 <;> cases x7 <;> simp
theorem zta(e:En)(al gr:Value)(l:List Int)(w:World)(hm:MaxL w)(hT:Tab w)(hI:IS w al l) :
  Calls Tryz.prog 74 #[.agg (e.vals al gr)] w fun r w'=>r=.returned (.bool (Vp.dat e l))∧Below w.heap.size w w':=by
 obtain⟨aa,ac,rfl,hz,hcells⟩:=hI;have HC:=lh hcells;clear hcells;go_enter Tryz.func74,Tryz.ntmps74
 simp only[List.append_eq,List.cons_append,List.nil_append]
 go_wp2_with fail
 go_loopw [11] (fun i wr=>∃ k:Nat,k<=l.length∧i=.int .i64 k∧DV w (e.vals (.slice aa l.length ac) gr) e.dat wr∧∀ j,j<k->Vp.altAt l j=true) (fun i _=>l.length - (intOf i).toNat)
 case atStart=>exact⟨0,Nat.zero_le _,rfl,DV.new w _ _ _ _,fun j h=>by omega⟩
 case round =>
  obtain⟨k,hk,rfl,hDV,hall⟩:=hrel;have HA:=lh hall;clear hall;have B0:=hDV.1;have z0:=B0.size;have z2:=hDV.2.2.2;have HDV:=lh hDV;have c23:=hDV.e 23 _ (zbk e _ gr);clear hDV;by_cases hlt:k<l.length
  · obtain⟨ab,ao,rfl,hab,hcl⟩:=HC.out (by omega);have q0:=(B0.cell (p:=⟨ab,ao+k,none⟩) hab).trans (hcl k hlt);obtain⟨n,hn⟩:∃ n,n=l[k]:=⟨_,rfl⟩;rw[<-hn] at q0;have hv:=zle l k hlt n hn;clear hn;by_cases p1:n<1
    · rw[decide_eq_false (by omega),Bool.false_and,Bool.false_and] at hv;have HB:=lh (zgq l k hlt hv);clear hv hcl;go_wp2_with fail
      go_ret
      exact⟨zaF (by unfold Vp.dat;rw[HB.out];rfl),B0⟩
    by_cases p2:1099511627776<n
    · rw[decide_eq_false (p:=n<=1099511627776) (by omega),Bool.and_false,Bool.false_and] at hv;have HB:=lh (zgq l k hlt hv);clear hv hcl;go_wp2_with fail
      go_ret
      exact⟨zaF (by unfold Vp.dat;rw[HB.out];rfl),B0⟩
    rw[decide_eq_true (p:=1<=n) (by omega),decide_eq_true (p:=n<=1099511627776) (by omega),Bool.true_and,Bool.true_and] at hv;by_cases p3:k=0
    · subst p3;rw[decide_eq_true rfl,Bool.true_or] at hv;rw[Nat.add_zero] at q0;have HV:=lh hv;clear hv hcl;go_wp2_with fail
      go_roundw
      case rel=>exact⟨1,by omega,by go_num,HDV.out,fun j hj=>by obtain rfl:j=0:=(by omega);exact HV.out⟩
      case measure=>simp [intOf];omega
    rw[decide_eq_false p3,Bool.false_or] at hv;obtain⟨i,rfl⟩:∃ i,k=i+1:=⟨k - 1,by omega⟩;simp only[Nat.add_sub_cancel] at hv
    have q1:=(B0.cell (p:=⟨ab,ao+i,none⟩) hab).trans (hcl i (by omega));obtain⟨q,hq⟩:∃ q,q=l[i]:=⟨_,rfl⟩;rw[<-hq] at q1;rw[show l.getD i 0=q by rw[hq,List.getD_eq_getElem?_getD,List.getElem?_eq_getElem (by omega)];rfl] at hv;clear hq hcl p3;by_cases p4:n<=q
    · rw[decide_eq_false (by omega)] at hv;have HB:=lh (zgq l (i+1) hlt hv);clear hv;go_wp2_with fail
      go_ret
      exact⟨zaF (by unfold Vp.dat;rw[HB.out];rfl),B0⟩
    · rw[decide_eq_true (by omega)] at hv;have HV:=lh hv;clear hv;go_wp2_with fail
      go_roundw
      case rel=>exact⟨i+2,by omega,by go_num,HDV.out,fun j hj=>by
       by_cases e:j=i+1
       · subst e;exact HV.out
       · exact HA.out j (by omega)⟩
      case measure=>simp [intOf];omega
  · have hal:Vp.alts l=true:=znQ l fun j hj=>HA.out j (by omega)
    have hD:Vp.dat e l=(Vp.rng 0 1099511627776 [e.d3,e.d4,e.d5,e.d6,e.d7,e.d8,e.d9,e.d10,e.d11,e.d12,e.d13]&&(Vp.rng 1 1099511627776 [e.d0]&&(Vp.rng 0 3 [e.d1]&&(Vp.rng 0 2 [e.d2]&&(Vp.rng 0 3 [e.cls]&&(((Ds.bl e.vol).isEmpty || Vp.word (Ds.bl e.vol))&&(((Ds.bl e.own).isEmpty || Vp.word (Ds.bl e.own))&&(Vp.days [e.cr,e.ex,e.used]&&decide (l.length<=4))))))))):=by
     unfold Vp.dat Vp.own;rw[hal,Bool.true_and]
    have zz1:w.heap.size<wr.heap.size:=by omega
    have zz3:w.heap.size+1<wr.heap.size:=by omega
    have zz4:w.heap.size+1<wr.heap.size+1:=by omega
    have zz5:w.heap.size+1<wr.heap.size+1+1:=by omega
    have zz6:w.heap.size+1<wr.heap.size+1+1+1:=by omega
    have zz7:w.heap.size+1<wr.heap.size+1+1+1+1:=by omega
    have h0:=fun t W=>within11 e.d3 e.d4 e.d5 e.d6 e.d7 e.d8 e.d9 e.d10 e.d11 e.d12 e.d13 t W
    have h1:=fun t W b h=>within1n 1 1099511627776 e.d0 t W b h
    have h2:=fun t W b h=>within1n 0 3 e.d1 t W b h
    have h3:=fun t W b h=>within1n 0 2 e.d2 t W b h
    have h4:=fun t W b h=>within1n 0 3 e.cls t W b h
    have h5:=fun (W:World) (h:Below w.heap.size w W)=>zhd e.vol W (hm.below h)
    have h6:=fun (W:World) (h:Below w.heap.size w W)=>zhd e.own W (hm.below h)
    have h7:∀ (t:TypeId) (W:World),Below w.heap.size w W->Calls Tryz.prog 143 #[.slice (some ⟨W.heap.size,0,none⟩) 3 3] (W.alloc (.cells #[.int .i64 e.cr,.int .i64 e.ex,.int .i64 e.used] t)) fun r w'=>r=.returned (.bool (Vp.days [e.cr,e.ex,e.used]))∧Below (W.alloc (.cells #[.int .i64 e.cr,.int .i64 e.ex,.int .i64 e.used] t)).heap.size (W.alloc (.cells #[.int .i64 e.cr,.int .i64 e.ex,.int .i64 e.used] t)) w':=fun t W h =>
     zu9 W.heap.size 3 [e.cr,e.ex,e.used] _ (hT.below (h.alloc h.size _)) (by simp) (by simp) (fun j hj=>by
      rw[cell_of_row _ W.heap.size j _ t (0,0) (heap_alloc_new W _)];have hj:j<3:=hj;rcases (by omega:j=0∨j=1∨j=2) with rfl|rfl|rfl <;> rfl)
    generalize Vp.rng 0 1099511627776 [e.d3,e.d4,e.d5,e.d6,e.d7,e.d8,e.d9,e.d10,e.d11,e.d12,e.d13]=x0 at h0 hD;generalize Vp.rng 1 1099511627776 [e.d0]=x1 at h1 hD;generalize Vp.rng 0 3 [e.d1]=x2 at h2 hD;generalize Vp.rng 0 2 [e.d2]=x3 at h3 hD;generalize Vp.rng 0 3 [e.cls]=x4 at h4 hD;generalize Vp.word (Ds.bl e.vol)=x5 at h5 hD;generalize Vp.word (Ds.bl e.own)=x6 at h6 hD;generalize Vp.days [e.cr,e.ex,e.used]=x7 at h7 hD;have H0:=lh h0;have H1:=lh h1;have H2:=lh h2;have H3:=lh h3;have H4:=lh h4;have H5:=lh h5;have H6:=lh h6;have H7:=lh h7;have v24:=HDV.out.e 24 _ (zbW e _ gr);have e0:=HDV.out.d 0 _ (zvp e);have e1:=HDV.out.d 1 _ (zvq e);have e2:=HDV.out.d 2 _ (zvr e);have e3:=HDV.out.d 3 _ (zvs e);have e4:=HDV.out.d 4 _ (zvt e);have e5:=HDV.out.d 5 _ (zvu e);have e6:=HDV.out.d 6 _ (zvv e);have e7:=HDV.out.d 7 _ (zvw e);have e8:=HDV.out.d 8 _ (zvx e);have e9:=HDV.out.d 9 _ (zvy e);have e10:=HDV.out.d 10 _ (ztJ e);have e11:=HDV.out.d 11 _ (ztK e);have e12:=HDV.out.d 12 _ (ztL e);have e13:=HDV.out.d 13 _ (ztM e);have e15:=HDV.out.d 15 _ (ztN e);have e16:=HDV.out.d 16 _ (zpL e);have e17:=HDV.out.d 17 _ (zlx e);have e18:=HDV.out.d 18 _ (zjv e);have e19:=HDV.out.d 19 _ (zjw e);clear h0 h1 h2 h3 h4 h5 h6 h7 hal;obtain⟨vb,g1,g2⟩:∃ b,e.vol.toList.isEmpty=b∧(Ds.bl e.vol).isEmpty=b:=by rcases zm0 e.vol with h|h <;> exact⟨_,h⟩
    obtain⟨ob,k1,k2⟩:∃ b,e.own.toList.isEmpty=b∧(Ds.bl e.own).isEmpty=b:=by rcases zm0 e.own with h|h <;> exact⟨_,h⟩
    rw[g2,k2] at hD;have HD:=lh hD;clear hD g2 k2;rcases zn1 x0 x1 x2 x3 x4 vb x5 ob x6 x7 with rfl|⟨rfl,rfl⟩|⟨rfl,rfl,rfl⟩|⟨rfl,rfl,rfl,rfl⟩|⟨rfl,rfl,rfl,rfl,rfl⟩|⟨rfl,rfl,rfl,rfl,rfl,rfl,rfl⟩|⟨rfl,rfl,rfl,rfl,rfl,rfl,rfl,rfl⟩|⟨rfl,rfl,rfl,rfl,rfl,rfl,rfl,rfl⟩|⟨rfl,rfl,rfl,rfl,rfl,rfl,rfl,rfl⟩|⟨rfl,rfl,rfl,rfl,rfl,rfl,rfl,rfl,rfl⟩|⟨rfl,rfl,rfl,rfl,rfl,rfl,rfl,rfl,rfl⟩|⟨rfl,rfl,rfl,rfl,rfl,rfl,rfl,rfl,rfl⟩|⟨rfl,rfl,rfl,rfl,rfl,rfl,rfl,rfl,rfl⟩|⟨rfl,rfl,rfl,rfl,rfl,rfl,rfl,rfl,rfl⟩|⟨rfl,rfl,rfl,rfl,rfl,rfl,rfl,rfl,rfl,rfl⟩|⟨rfl,rfl,rfl,rfl,rfl,rfl,rfl,rfl,rfl,rfl⟩
    all_goals
     go_wp2_with (first|((with_reducible refine (H0.out _ _).mono ?_);rintro _ w3 ⟨rfl,rfl⟩)|((with_reducible refine (H1.out _ _ _ (by simp)).mono ?_);rintro _ w3 ⟨rfl,rfl⟩)|((with_reducible refine (H2.out _ _ _ (by simp)).mono ?_);rintro _ w3 ⟨rfl,rfl⟩)|((with_reducible refine (H3.out _ _ _ (by simp)).mono ?_);rintro _ w3 ⟨rfl,rfl⟩)|((with_reducible refine (H4.out _ _ _ (by simp)).mono ?_);rintro _ w3 ⟨rfl,hw3⟩;have D3:DV w (e.vals (.slice aa l.length ac) gr) e.dat w3:=(by rw[<-hw3];repeat (first|exact D6|exact D5|exact D4|exact D3|exact HDV.out|refine DV.alloc ?_ _));have e16:=D3.d 16 _ (zpL e);have e17:=D3.d 17 _ (zlx e);have e18:=D3.d 18 _ (zjv e);have e19:=D3.d 19 _ (zjw e);have v24:=D3.e 24 _ (zbW e _ gr);have c23:=D3.e 23 _ (zbk e _ gr);have z3:=D3.2.2.2;have z31:w.heap.size<w3.heap.size:=(by omega);have z32:w.heap.size+1<w3.heap.size:=(by omega);clear hw3)|(go_at_call 82;(with_reducible refine (H5.out _ (DV.bel (e.vals (.slice aa l.length ac) gr) e.dat (by repeat (first|exact D6|exact D5|exact D4|exact D3|exact HDV.out|refine DV.alloc ?_ _)))).mono ?_);rintro _ w4 ⟨rfl,hb4⟩;have D4:=DV.below (show DV w (e.vals (.slice aa l.length ac) gr) e.dat _ by repeat (first|exact D6|exact D5|exact D4|exact D3|exact HDV.out|refine DV.alloc ?_ _)) hb4;have e17:=D4.d 17 _ (zlx e);have e18:=D4.d 18 _ (zjv e);have e19:=D4.d 19 _ (zjw e);have v24:=D4.e 24 _ (zbW e _ gr);have c23:=D4.e 23 _ (zbk e _ gr);have z4:=D4.2.2.2;have z41:w.heap.size<w4.heap.size:=(by omega);have z42:w.heap.size+1<w4.heap.size:=(by omega);clear hb4)|(go_at_call 82;(with_reducible refine (H6.out _ (DV.bel (e.vals (.slice aa l.length ac) gr) e.dat (by repeat (first|exact D6|exact D5|exact D4|exact D3|exact HDV.out|refine DV.alloc ?_ _)))).mono ?_);rintro _ w5 ⟨rfl,hb5⟩;have D5:=DV.below (show DV w (e.vals (.slice aa l.length ac) gr) e.dat _ by repeat (first|exact D6|exact D5|exact D4|exact D3|exact HDV.out|refine DV.alloc ?_ _)) hb5;have e18:=D5.d 18 _ (zjv e);have e19:=D5.d 19 _ (zjw e);have v24:=D5.e 24 _ (zbW e _ gr);have c23:=D5.e 23 _ (zbk e _ gr);have z5:=D5.2.2.2;have z51:w.heap.size<w5.heap.size:=(by omega);have z52:w.heap.size+1<w5.heap.size:=(by omega);clear hb5)|(go_at_call 143;(with_reducible refine (H7.out _ _ (DV.bel (e.vals (.slice aa l.length ac) gr) e.dat (by repeat (first|exact D6|exact D5|exact D4|exact D3|exact HDV.out|refine DV.alloc ?_ _)))).mono ?_);rintro _ w6 ⟨rfl,hb6⟩;have D6:=DV.below (show DV w (e.vals (.slice aa l.length ac) gr) e.dat _ by repeat (first|exact D6|exact D5|exact D4|exact D3|exact HDV.out|refine DV.alloc ?_ _)) hb6;have c23:=D6.e 23 _ (zbk e _ gr);clear hb6))
     go_ret
     exact⟨zaF (by rw[HD.out];first|rfl|(simp only[Bool.true_and,Bool.or_true,Bool.true_or];rw[Bool.eq_iff_iff,decide_eq_true_eq,decide_eq_true_eq];omega)),DV.bel (e.vals (.slice aa l.length ac) gr) e.dat (by repeat (first|exact D6|exact D5|exact D4|exact D3|exact HDV.out|refine DV.alloc ?_ _))⟩
end Go.Proofs.YtefcmdmfgdcpmaaGreatDoor
