/- Catalogs. -/
import Derived.Test.YtnkjliahpeebjaaGreatDoorAcA
set_option maxRecDepth 8000
set_option maxHeartbeats 4000000
open Option renaming some->Z9,none->Z7
open _root_ renaming ByteArray->Z6,List->Z1,UInt8->ZM,Option->Zp
open Go renaming Value->Z2,World->ZY,block_lt_of_cell->YF
open List renaming take_succ_eq_append_getElem->ZK,length_cons->Zw
open Go.Addr renaming add_lit->Yl,add->Wj
namespace Go.Proofs.YtnkjliahpeebjaaGreatDoor
variable(p:Nat){w w':ZY}(a b:Z6){key:Z1 ZM}(f:Z2){v:Z2}(d e c:Int){j id:Int}
abbrev Rw:=Int × Z6 × Z6
def bB(a b:Z1 ZM):Bool:=decide (Lib.compareBytes a b<0)
def nxq(id:Int)(k:Z1 ZM)(o:Zp Rw)(x:Rw):Bool:=decide (x.1=id)&&(bB k (Ds.bl x.2.1)&&(match o with|none=>true|some y=>bB (Ds.bl x.2.1) (Ds.bl y.2.1)))
def nxs(id:Int)(k:Z1 ZM)(o:Zp Rw)(x:Rw):Zp Rw:=if nxq id k o x=true then Z9 x else o
def nx(id:Int)(k:Z1 ZM)(l:Z1 Rw):Zp Rw:=l.foldl (nxs id k) Z7
theorem po(id:Int)(k:Z1 ZM)(l:Z1 Rw)(x:Rw):nx id k (l++[x])=nxs id k (nx id k l) x:=by
 unfold nx;rw[List.foldl_append];rfl
theorem Ec{k:Z1 ZM}{l:Z1 Rw}{x:Rw}(h:nxq id k (nx id k l) x=false):nx id k (l++[x])=nx id k l:=by
 rw[po];unfold nxs;rw[if_neg (by rw[h];simp)]
theorem Ed{k:Z1 ZM}{l:Z1 Rw}{x:Rw}(h:nxq id k (nx id k l) x=true):nx id k (l++[x])=Z9 x:=by
 rw[po];unfold nxs;rw[if_pos h]
def NI(id:Int)(key:Z1 ZM)(l:Z1 Rw)(k:Nat)(j:Int):Prop:=(nx id key (l.take k)=Z7/\j=-1)\/∃ (i:Nat) (h:i<l.length),j=i/\i<k/\nx id key (l.take k)=Z9 l[i]
theorem NI.keep{l:Z1 Rw}{k:Nat}(h:NI id key l k j)(n:k<l.length)(q:nxq id key (nx id key (l.take k)) l[k]=false):NI id key l (k+1) j:=by
 have e:nx id key (l.take (k+1))=nx id key (l.take k):=by rw[ZK n];exact Ec q
 unfold NI;rw[e];rcases h with h|⟨i,H,g,o,m⟩
 .exact Or.inl h
 .exact Or.inr ⟨i,H,g,by omega,m⟩
theorem NI.take{l:Z1 Rw}{k:Nat}(h:k<l.length)(H:nxq id key (nx id key (l.take k)) l[k]=true):NI id key l (k+1) (k:Int):=by
 refine Or.inr ⟨k,h,rfl,by omega,?_⟩
 rw[ZK h];exact Ed H
def cnt(id:Int)(k:Z1 ZM)(l:Z1 Rw):Nat:=l.countP fun x=>decide (x.1=id)&&bB k (Ds.bl x.2.1)
theorem cnt_le(id:Int)(k:Z1 ZM)(l:Z1 Rw):cnt id k l<=l.length:=List.countP_le_length
section
open Go.RowKit
def RwS(w:ZY)(v:Z2)(l:Z1 Rw):Prop :=
 ∃ a c,v=.slice a l.length c/\l.length<=1000000/\(0<l.length->∃ b o,a=Z9 ⟨b,o,Z7⟩/\b<w.heap.size/\∀ k (h:k<l.length),w.cell? ⟨b,o+k*3,Z7⟩=Z9 (.int .i64 l[k].1)/\w.cell? ⟨b,o+k*3+1,Z7⟩=Z9 (.string l[k].2.1)/\w.cell? ⟨b,o+k*3+2,Z7⟩=Z9 (.string l[k].2.2))
theorem RwS.keep{l:Z1 Rw}(h:RwS w v l)(u:w.heap.size<=w'.heap.size)(H:∀ b,v.ownBlock=Z9 b->b<w.heap.size->w'.heap[b]?=w.heap[b]?):RwS w' v l:=by
 obtain⟨a,c,m,r,s⟩:=h;refine⟨a,c,m,r,fun n=>?_⟩
 obtain⟨b,o,ha,t,g⟩:=s n;subst ha;have q:=fun i=>World.cell?_of_block (w:=w) (w':=w') (a:=⟨b,i,Z7⟩) (H b (by rw[m];rfl) t)
 exact⟨b,o,rfl,Nat.lt_of_lt_of_le t u,fun k H=>⟨(q _).trans (g k H).1,(q _).trans (g k H).2.1,(q _).trans (g k H).2.2⟩⟩
theorem RwS.below{l:Z1 Rw}(h:RwS w v l)(H:Below w.heap.size w w'):RwS w' v l:=h.keep H.size (fun b _ g=>H.block b g)
theorem RwS.nil(w:ZY):RwS w (.slice Z7 0 0) []:=⟨Z7,0,rfl,by decide,fun h=>by simp at h⟩
def SHf(w:ZY)(p:Nat)(f:Z2)(d e c:Int):Prop:=row w p=#[f,.int .i64 d,.int .i64 e,.int .i64 c]/\∀ o,w.frozen? ⟨p,o,Z7⟩=false
theorem nM(w:ZY)(q n:Nat):(w.drewN q).drewN n=w.drewN (q+n):=by simp [World.drewN,Nat.add_assoc]
theorem sN(w:ZY)(h:SHf w p f d e c)(n:0<=c)(o:c<1000000000) :
 Calls Tryz.prog 372 #[.pointer (Z9 ⟨p,0,Z7⟩)] w fun r w'=>r=.returned (.bool (decide (c+1=d)))/\∃ q,w'=(w.setCell ⟨p,3,Z7⟩ (.int .i64 (c+1))).drewN q:=by
 obtain⟨H,i⟩:=h;have l:=ae H 1 _ rfl;have C:=ae H 3 _ rfl;have F:=i 3;have s:=YF C;have t:IntKind.i64.wrap (c+1)=c+1:=IntWalk.i64_in _ ⟨by omega,by omega⟩
 have D:(w.setCell ⟨p,3,Z7⟩ (.int .i64 (c+1))).cell? ⟨p,1,Z7⟩=Z9 (.int .i64 d):=by
  rw[World.cell?_setCell_other _ _ _ _ (by intro h;cases h)];exact l
 have m:(w.setCell ⟨p,3,Z7⟩ (.int .i64 (c+1))).cell? ⟨p,3,Z7⟩=Z9 (.int .i64 (c+1)):=World.cell?_setCell_same' _ _ _ (by rw[C];rfl);have E:=lh (show (c+1==d)=decide (c+1=d) by rw[Bool.eq_iff_iff,beq_iff_eq,decide_eq_true_eq]);clear H i;go_enter Tryz.func372,Tryz.ntmps372
 go_wp2_with fail
 generalize g:w.setCell ⟨p,3,Z7⟩ (.int .i64 (c+1))=W at D m |-;have k:=lh g;clear g;go_quiet (fail)
 go_wp2_with fail
 go_ret
 exact⟨aF E.o,_,(congrArg (fun z=>World.drewN z _) k.o).symm⟩
theorem mN:Op.bytesLess a.toList b.toList=bB (Ds.bl a) (Ds.bl b):=by
 rw[show a.toList=Ds.bl a from Lib.toList_data a,show b.toList=Ds.bl b from Lib.toList_data b,Ds.less_cmp];rfl
end
section
open Go.RowKit
def rv:Z1 Rw->Z1 Z2
 | []=>[]
 | x::r=>[.int .i64 x.1,.string x.2.1,.string x.2.2]++rv r
theorem lK:∀ l:Z1 Rw,(rv l).length=l.length*3
 | []=>rfl
 | x::r=>by rw[rv,List.length_append,lK r,Zw,Zw,Zw,Zw,List.length_nil];omega
theorem bM:∀ (l:Z1 Rw),∀ u∈rv l,u.oneCell'=true
 | [],u,h=>by cases h
 | x::r,u,h=>by
   rw[rv,List.mem_append] at h;rcases h with h|h
   .simp only[List.mem_cons,List.not_mem_nil,or_false] at h
    rcases h with rfl|rfl|rfl <;> rfl
   .exact bM r u h
theorem fB:∀ (l m:Z1 Rw),rv (l++m)=rv l++rv m
 | [],m=>rfl
 | x::r,m=>by rw[List.cons_append,rv,rv,fB r m,List.append_assoc]
theorem nd:∀ (l:Z1 Rw) (k:Nat) (h:k<l.length),(rv l)[k*3]?=Z9 (.int .i64 l[k].1)/\(rv l)[k*3+1]?=Z9 (.string l[k].2.1)/\(rv l)[k*3+2]?=Z9 (.string l[k].2.2)
 | x::r,0,_=>⟨rfl,rfl,rfl⟩
 | x::r,k+1,h=>by
   have:=nd r k (by simpa using h);have e:(k+1)*3=k*3+3:=by omega
   rw[e,rv];simpa using this
theorem Hr(l:Z1 Rw)(P:Nat->Z2->Prop)(h:∀ k (h:k<l.length),P (k*3) (.int .i64 l[k].1)/\P (k*3+1) (.string l[k].2.1)/\P (k*3+2) (.string l[k].2.2)):∀ j u,(rv l)[j]?=Z9 u->P j u:=by
 intro j u H;have r:=(List.getElem?_eq_some_iff.1 H).1;rw[lK] at r;have g:j / 3<l.length:=by omega
 obtain⟨i,m,n⟩:=h (j / 3) g;obtain⟨q,Q,o⟩:=nd l (j / 3) g;rcases (by omega:j=j / 3*3\/j=j / 3*3+1\/j=j / 3*3+2) with e|e|e
 .rw[<-e] at i q;rw[q] at H;cases H;exact i
 .rw[<-e] at m Q;rw[Q] at H;cases H;exact m
 .rw[<-e] at n o;rw[o] at H;cases H;exact n
theorem RwS.cells{l:Z1 Rw}(h:RwS w v l):CS w 3 v l.length (rv l):=by
 obtain⟨a,c,rfl,-,g⟩:=h;refine⟨a,c,rfl,lK l,fun H=>?_⟩
 obtain⟨b,o,rfl,-,p⟩:=g H;refine⟨_,rfl,Hr l (fun j u=>w.cell? ((⟨b,o,Z7⟩:Addr).add j)=Z9 u) fun k i=>?_⟩
 rw[Yl,Yl,Yl];exact p k i
theorem jX{l:Z1 Rw}(z:l.length<=1000000)(h:CS w 3 v l.length (rv l)):RwS w v l:=by
 obtain⟨a,c,rfl,t,i⟩:=h;refine⟨a,c,rfl,z,fun H=>?_⟩
 obtain⟨⟨b,o,s⟩,rfl,p⟩:=i H;have P:=p 0 _ (nd l 0 H).1
 obtain rfl:s=Z7:=by
  have:=World.cell?_spot P;simpa [Wj] using this
 refine⟨b,o,rfl,YF (by simpa [Wj] using P:w.cell? ⟨b,o,Z7⟩=_),fun k m=>?_⟩
 obtain⟨q,Q,n⟩:=nd l k m;have r:=p _ _ q;have R:=p _ _ Q;have g:=p _ _ n;rw[Yl] at r R g;exact⟨r,R,g⟩
theorem aj(w:ZY)(o:Obj):Below w.heap.size w (w.alloc o):=(Below.refl _ _).alloc (Nat.le_refl _) o
theorem bR:Tryz.prog.info? 89=Z9 ((Tryz.prog.info? 89).getD default):=by kernel_rfl
theorem bO:((Tryz.prog.info? 89).getD default).zero=Z9 (.agg #[.int .i64 0,.string ⟨#[]⟩,.string ⟨#[]⟩]):=by kernel_rfl
theorem bP:((Tryz.prog.info? 89).getD default).size=3:=by kernel_rfl
theorem bQ:((Tryz.prog.info? 89).getD default).bytes=40:=by kernel_rfl
theorem eN(W:ZY)(x:Rw)(t:TypeId)(k:Nat)(H:k=W.heap.size):CS (W.alloc (.cells #[.int .i64 x.1,.string x.2.1,.string x.2.2] t)) 3 (.slice (Z9 ⟨k,0,Z7⟩) 1 1) 1 (rv [x]):=by
 subst H;refine⟨_,_,rfl,rfl,fun _=>⟨_,rfl,fun j u h=>?_⟩⟩
 rw[Yl,Nat.zero_add,cell_of_row _ W.heap.size j _ t (0,0) (heap_alloc_new W _)];have:rv [x]=(#[Value.int .i64 x.1,Value.string x.2.1,Value.string x.2.2]:Array Z2).toList:=rfl;rw[this] at h;simpa using h
attribute [local go_sem ↓] fb
attribute [local go_sem] aH bE bH az aM
end
end Go.Proofs.YtnkjliahpeebjaaGreatDoor
