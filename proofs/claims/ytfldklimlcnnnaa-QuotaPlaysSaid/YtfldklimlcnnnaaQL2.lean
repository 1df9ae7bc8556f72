/- The words and walks that the law QuotaPlays is proved by, part 2: each text in a section of its own. -/
import Derived.Test.YtfldklimlcnnnaaQL1
import Derived.OpenShut
import Derived.Deep.Slices
import Derived.WalkMore
import Derived.Test.YtfldklimlcnnnaaProg
import Derived.Below
import Derived.Deep.Draws
import Derived.Deep.AppendLies
import Derived.Maps.AppendAt
import Derived.OwnWalk
import Derived.Laws.BytesArg
import Derived.Laws.MakeOwn
import Derived.Laws.OwnMore
import Derived.Deep.OwnRows
import Derived.Tactics
import Derived.Lib.ConvBytes
import Derived.Laws.Slices
import Derived.WalkKit
import Derived.KernelRfl
import Derived.RowKit3
import Derived.Deep.LoopGhost
import Derived.Deep.QuietTactic
import Derived.BigQuiet
import Derived.WideLaws
import Derived.Deep.DeepCutAuto
import Derived.Deep.CutBlock
import Derived.Deep.RegionHeld3
import Derived.Laws.Rows
import Derived.Lib.AppendStr
import Derived.ArgAppend
import Derived.Laws.IdiomCopy
import Derived.OrdersHeld
import Derived.Laws.BitsLemmas
import Derived.RowKit
set_option linter.unusedVariables false
set_option linter.unusedSimpArgs false
section
namespace Go.Proofs.Ytfldklimlcnnnaa.MNat
def nval:List Int->Nat
 | []=>0
 | x::xs=>x.toNat+4294967296*nval xs
def limbs (n:Nat):List Int :=
 if h:n=0 then [] else ((n % 4294967296:Nat):Int)::limbs (n / 4294967296)
 termination_by n
 decreasing_by omega
def Lim (l:List Int):Prop:=∀x∈l,0<=x/\x<4294967296
instance (l:List Int):Decidable (Lim l):=by unfold Lim;infer_instance
def trim (xs:List Int):List Int:=(xs.reverse.dropWhile (· == 0)).reverse
theorem trim_nil:trim [] = []:=rfl
theorem trim_snoc0 (xs:List Int):trim (xs++[0])=trim xs:=by simp [trim]
theorem trim_snoc (xs:List Int) (x:Int) (h:x≠0):trim (xs++[x])=xs++[x]:=by simp [trim,h]
theorem take_succ_rd (xs:List Int) (k:Nat) (h:k<xs.length):xs.take (k+1)=xs.take k++[xs.getD k 0]:=by
 rw [List.take_succ_eq_append_getElem h];simp [List.getD,h]
theorem limbs_zero:limbs 0 = []:=by rw [limbs];simp
theorem limbs_pos (n:Nat) (h:n≠0):limbs n=((n % 4294967296:Nat):Int)::limbs (n / 4294967296):=by rw [limbs];simp [h]
theorem nval_limbs (n:Nat):nval (limbs n)=n:=by
 induction n using Nat.strongRecOn with
 | _ n ih =>
  by_cases h:n=0
  ·subst h;rw [limbs_zero];rfl
  ·rw [limbs_pos n h,nval,ih (n / 4294967296) (by omega)];omega
theorem lim_limbs (n:Nat):Lim (limbs n):=by
 induction n using Nat.strongRecOn with
 | _ n ih =>
  by_cases h:n=0
  ·subst h;rw [limbs_zero];intro x hx;cases hx
  ·rw [limbs_pos n h]
   intro x hx
   rcases List.mem_cons.1 hx with rfl|hx
   ·omega
   ·exact ih (n / 4294967296) (by omega) x hx
theorem lim_nil:Lim []:=fun x hx=>by cases hx
theorem lim_cons {x:Int} {xs:List Int} : Lim (x::xs)↔(0<=x/\x<4294967296)/\Lim xs:=by
 constructor
 ·intro h;exact ⟨h x List.mem_cons_self,fun y hy=>h y (List.mem_cons_of_mem _ hy)⟩
 ·rintro ⟨h1,h2⟩ y hy
  rcases List.mem_cons.1 hy with rfl|hy
  ·exact h1
  ·exact h2 y hy
theorem lim_append {xs ys:List Int} : Lim (xs++ys)↔Lim xs/\Lim ys:=by
 constructor
 ·intro h;exact ⟨fun y hy=>h y (List.mem_append_left _ hy),fun y hy=>h y (List.mem_append_right _ hy)⟩
 ·rintro ⟨h1,h2⟩ y hy
  rcases List.mem_append.1 hy with hy|hy
  ·exact h1 y hy
  ·exact h2 y hy
theorem lim_take {xs:List Int} (h:Lim xs) (k:Nat):Lim (xs.take k):=fun x hx=>h x (List.mem_of_mem_take hx)
theorem lim_drop {xs:List Int} (h:Lim xs) (k:Nat):Lim (xs.drop k):=fun x hx=>h x (List.mem_of_mem_drop hx)
theorem lim_getD {xs:List Int} (h:Lim xs) (k:Nat):0<=xs.getD k 0/\xs.getD k 0<4294967296:=by
 by_cases hk:k<xs.length
 ·have e:xs.getD k 0=xs[k]:=by simp [List.getD,hk]
  rw [e];exact h _ (List.getElem_mem hk)
 ·have e:xs.getD k 0=0:=by simp [List.getD,List.getElem?_eq_none (Nat.le_of_not_lt hk)]
  rw [e];omega
theorem nval_append (xs ys:List Int):nval (xs++ys)=nval xs+4294967296 ^ xs.length*nval ys:=by
 induction xs with
 | nil=>simp [nval]
 | cons x xs ih =>
  simp only [List.cons_append,nval,ih,List.length_cons,Nat.pow_succ]
  rw [Nat.mul_add,Nat.mul_comm (4294967296 ^ xs.length) 4294967296,Nat.mul_assoc];omega
theorem nval_snoc (xs:List Int) (x:Int):nval (xs++[x])=nval xs+4294967296 ^ xs.length*x.toNat:=by
 rw [nval_append];simp [nval]
theorem nval_lt {xs:List Int} (h:Lim xs):nval xs<4294967296 ^ xs.length:=by
 induction xs with
 | nil=>simp [nval]
 | cons x xs ih =>
  obtain ⟨⟨h0,h1⟩,h2⟩:=lim_cons.1 h
  have:=ih h2
  simp only [nval,List.length_cons,Nat.pow_succ]
  omega
theorem lim_zeros (k:Nat):Lim (List.replicate k 0):=fun x hx=>by rw [List.eq_of_mem_replicate hx];omega
theorem nval_zeros (k:Nat):nval (List.replicate k 0)=0:=by
 induction k with
 | zero=>rfl
 | succ k ih=>simp [List.replicate_succ,nval,ih]
theorem rev_ind {P:List Int->Prop} (h0:P []) (h1:∀xs x,P xs->P (xs++[x])) (l:List Int):P l:=by
 have key:∀r:List Int,P r.reverse:=by
  intro r
  induction r with
  | nil=>simpa using h0
  | cons x r ih=>rw [List.reverse_cons];exact h1 _ _ ih
 simpa using key l.reverse
theorem limbs_nval {xs:List Int} (h:Lim xs) (hn:xs = [] ∨ ∃ys x,xs=ys++[x]/\x≠0):limbs (nval xs)=xs:=by
 induction xs with
 | nil=>simp [nval,limbs_zero]
 | cons x xs ih =>
  obtain ⟨⟨h0,h1⟩,h2⟩:=lim_cons.1 h
  have hne:nval (x::xs)≠0:=by
   rcases hn with hn|⟨ys,z,hn,hz⟩
   ·cases hn
   ·rw [hn,nval_snoc]
    have hz':z∈x::xs:=by rw [hn];simp
    have:=h z hz'
    have:0<4294967296 ^ ys.length*z.toNat:=Nat.mul_pos (Nat.pow_pos (by omega)) (by omega)
    omega
  rw [limbs_pos _ hne]
  have e1:nval (x::xs) % 4294967296=x.toNat:=by simp only [nval];omega
  have e2:nval (x::xs) / 4294967296=nval xs:=by simp only [nval];omega
  rw [e1,e2,Int.toNat_of_nonneg h0]
  congr 1
  apply ih h2
  rcases hn with hn|⟨ys,z,hn,hz⟩
  ·cases hn
  ·cases ys with
   | nil=>simp at hn;exact .inl hn.2
   | cons y ys=>simp at hn;exact .inr ⟨ys,z,hn.2,hz⟩
theorem trim_eq {xs:List Int} (h:Lim xs):trim xs=limbs (nval xs):=by
 induction xs using rev_ind with
 | h0=>simp [trim_nil,nval,limbs_zero]
 | h1 xs x ih =>
  obtain ⟨h1,h2⟩:=lim_append.1 h
  by_cases hx:x=0
  ·subst hx;rw [trim_snoc0,ih h1,nval_snoc];simp
  ·rw [trim_snoc _ _ hx];exact (limbs_nval h (.inr ⟨xs,x,rfl,hx⟩)).symm
theorem limbs_len (n k:Nat) (h:n<4294967296 ^ k):(limbs n).length<=k:=by
 induction k generalizing n with
 | zero=>simp at h;subst h;simp [limbs_zero]
 | succ k ih =>
  by_cases hn:n=0
  ·subst hn;simp [limbs_zero]
  ·rw [limbs_pos n hn,List.length_cons]
   have:=ih (n / 4294967296) (by rw [Nat.pow_succ] at h;omega)
   omega
theorem limbs_ne (n:Nat) (h:n≠0):limbs n ≠ []:=by rw [limbs_pos n h];simp
theorem limbs_last (n:Nat):limbs n = [] ∨ ∃ys x,limbs n=ys++[x]/\x≠0:=by
 induction n using Nat.strongRecOn with
 | _ n ih =>
  by_cases h:n=0
  ·subst h;exact .inl limbs_zero
  ·refine .inr ?_
   rw [limbs_pos n h]
   rcases ih (n / 4294967296) (by omega) with h2|⟨ys,x,h2,hx⟩
   ·rw [h2]
    refine ⟨[],_,rfl,?_⟩
    have:n / 4294967296=0:=by
     by_cases h3:n / 4294967296=0
     ·exact h3
     ·exact absurd h2 (limbs_ne _ h3)
    omega
   ·exact ⟨_::ys,x,by rw [h2];rfl,hx⟩
def isN (l:List Int):Prop:=l=limbs (nval l)/\l.length<=1000000
instance (l:List Int):Decidable (isN l):=by unfold isN;infer_instance
theorem isN.lim {l:List Int} (h:isN l):Lim l:=by rw [h.1];exact lim_limbs _
theorem isN_limbs {n k:Nat} (h:n<4294967296 ^ k) (hk:k<=1000000):isN (limbs n):=⟨by rw [nval_limbs],Nat.le_trans (limbs_len n k h) hk⟩
theorem limbs_length_le {n m:Nat} (h:n<=m):(limbs n).length<=(limbs m).length:=by
 apply limbs_len
 rw [<-nval_limbs m] at h
 exact Nat.lt_of_le_of_lt h (nval_lt (lim_limbs m))
end Go.Proofs.Ytfldklimlcnnnaa.MNat
end

section
namespace Go.Proofs.Ytfldklimlcnnnaa.MDec
open MNat (trim trim_nil trim_snoc0 trim_snoc take_succ_rd rev_ind)
def dval:List Int->Nat
 | []=>0
 | x::xs=>x.toNat+10*dval xs
def decs (n:Nat):List Int :=
 if h:n=0 then [] else ((n % 10:Nat):Int)::decs (n / 10)
 termination_by n
 decreasing_by omega
def Dgt (l:List Int):Prop:=∀x∈l,0<=x/\x<10
instance (l:List Int):Decidable (Dgt l):=by unfold Dgt;infer_instance
theorem decs_zero:decs 0 = []:=by rw [decs];simp
theorem decs_pos (n:Nat) (h:n≠0):decs n=((n % 10:Nat):Int)::decs (n / 10):=by rw [decs];simp [h]
theorem dval_decs (n:Nat):dval (decs n)=n:=by
 induction n using Nat.strongRecOn with
 | _ n ih =>
  by_cases h:n=0
  ·subst h;rw [decs_zero];rfl
  ·rw [decs_pos n h,dval,ih (n / 10) (by omega)];omega
theorem dgt_decs (n:Nat):Dgt (decs n):=by
 induction n using Nat.strongRecOn with
 | _ n ih =>
  by_cases h:n=0
  ·subst h;rw [decs_zero];intro x hx;cases hx
  ·rw [decs_pos n h]
   intro x hx
   rcases List.mem_cons.1 hx with rfl|hx
   ·omega
   ·exact ih (n / 10) (by omega) x hx
theorem dgt_nil:Dgt []:=fun x hx=>by cases hx
theorem dgt_cons {x:Int} {xs:List Int} : Dgt (x::xs)↔(0<=x/\x<10)/\Dgt xs:=by
 constructor
 ·intro h;exact ⟨h x List.mem_cons_self,fun y hy=>h y (List.mem_cons_of_mem _ hy)⟩
 ·rintro ⟨h1,h2⟩ y hy
  rcases List.mem_cons.1 hy with rfl|hy
  ·exact h1
  ·exact h2 y hy
theorem dgt_append {xs ys:List Int} : Dgt (xs++ys)↔Dgt xs/\Dgt ys:=by
 constructor
 ·intro h;exact ⟨fun y hy=>h y (List.mem_append_left _ hy),fun y hy=>h y (List.mem_append_right _ hy)⟩
 ·rintro ⟨h1,h2⟩ y hy
  rcases List.mem_append.1 hy with hy|hy
  ·exact h1 y hy
  ·exact h2 y hy
theorem dgt_take {xs:List Int} (h:Dgt xs) (k:Nat):Dgt (xs.take k):=fun x hx=>h x (List.mem_of_mem_take hx)
theorem dgt_getD {xs:List Int} (h:Dgt xs) (k:Nat):0<=xs.getD k 0/\xs.getD k 0<10:=by
 by_cases hk:k<xs.length
 ·have e:xs.getD k 0=xs[k]:=by simp [List.getD,hk]
  rw [e];exact h _ (List.getElem_mem hk)
 ·have e:xs.getD k 0=0:=by simp [List.getD,List.getElem?_eq_none (Nat.le_of_not_lt hk)]
  rw [e];omega
theorem dval_append (xs ys:List Int):dval (xs++ys)=dval xs+10 ^ xs.length*dval ys:=by
 induction xs with
 | nil=>simp [dval]
 | cons x xs ih =>
  simp only [List.cons_append,dval,ih,List.length_cons,Nat.pow_succ]
  rw [Nat.mul_add,Nat.mul_comm (10 ^ xs.length) 10,Nat.mul_assoc];omega
theorem dval_snoc (xs:List Int) (x:Int):dval (xs++[x])=dval xs+10 ^ xs.length*x.toNat:=by
 rw [dval_append];simp [dval]
theorem dval_lt {xs:List Int} (h:Dgt xs):dval xs<10 ^ xs.length:=by
 induction xs with
 | nil=>simp [dval]
 | cons x xs ih =>
  obtain ⟨⟨h0,h1⟩,h2⟩:=dgt_cons.1 h
  have:=ih h2
  simp only [dval,List.length_cons,Nat.pow_succ]
  omega
theorem decs_dval {xs:List Int} (h:Dgt xs) (hn:xs = [] ∨ ∃ys x,xs=ys++[x]/\x≠0):decs (dval xs)=xs:=by
 induction xs with
 | nil=>simp [dval,decs_zero]
 | cons x xs ih =>
  obtain ⟨⟨h0,h1⟩,h2⟩:=dgt_cons.1 h
  have hne:dval (x::xs)≠0:=by
   rcases hn with hn|⟨ys,z,hn,hz⟩
   ·cases hn
   ·rw [hn,dval_snoc]
    have hz':z∈x::xs:=by rw [hn];simp
    have:=h z hz'
    have:0<10 ^ ys.length*z.toNat:=Nat.mul_pos (Nat.pow_pos (by omega)) (by omega)
    omega
  rw [decs_pos _ hne]
  have e1:dval (x::xs) % 10=x.toNat:=by simp only [dval];omega
  have e2:dval (x::xs) / 10=dval xs:=by simp only [dval];omega
  rw [e1,e2,Int.toNat_of_nonneg h0]
  congr 1
  apply ih h2
  rcases hn with hn|⟨ys,z,hn,hz⟩
  ·cases hn
  ·cases ys with
   | nil=>simp at hn;exact .inl hn.2
   | cons y ys=>simp at hn;exact .inr ⟨ys,z,hn.2,hz⟩
theorem trim_eq {xs:List Int} (h:Dgt xs):trim xs=decs (dval xs):=by
 induction xs using rev_ind with
 | h0=>simp [trim_nil,dval,decs_zero]
 | h1 xs x ih =>
  obtain ⟨h1,h2⟩:=dgt_append.1 h
  by_cases hx:x=0
  ·subst hx;rw [trim_snoc0,ih h1,dval_snoc];simp
  ·rw [trim_snoc _ _ hx];exact (decs_dval h (.inr ⟨xs,x,rfl,hx⟩)).symm
theorem decs_len (n k:Nat) (h:n<10 ^ k):(decs n).length<=k:=by
 induction k generalizing n with
 | zero=>simp at h;subst h;simp [decs_zero]
 | succ k ih =>
  by_cases hn:n=0
  ·subst hn;simp [decs_zero]
  ·rw [decs_pos n hn,List.length_cons]
   have:=ih (n / 10) (by rw [Nat.pow_succ] at h;omega)
   omega
theorem decs_ne (n:Nat) (h:n≠0):decs n ≠ []:=by rw [decs_pos n h];simp
def isD (l:List Int):Prop:=l=decs (dval l)/\l.length<=1000000
instance (l:List Int):Decidable (isD l):=by unfold isD;infer_instance
theorem decs_length_le {n m:Nat} (h:n<=m):(decs n).length<=(decs m).length:=by
 apply decs_len
 rw [<-dval_decs m] at h
 exact Nat.lt_of_le_of_lt h (dval_lt (dgt_decs m))
end Go.Proofs.Ytfldklimlcnnnaa.MDec
end

section
namespace Go.Proofs.Ytfldklimlcnnnaa.MOpen
open Go.RowKit YtfldklimlcnnnaaW.PrintWords Go.ChangeShapes Go.WideShapes Go.Deep
def Opens (P:Program) (T:TypeId) {α:Type} (d:Kd α) (ok:α->Prop):Prop :=
 ∀ {H:Type} (enc:TypeId × Value->H) (w:World) (spare:Nat->Bool) (held:Bool) (fuel:Nat) (cs:List Value) (x:DataW H × List MemPlace),
  DataW.trod enc P w 0 spare held fuel T cs=some x->∃a:α,d.K w a cs/\ok a
theorem Opens.int {P:Program} {T:TypeId} {k:IntKind} (ht:P.underlying T=some (.int k)):Opens P T (Kd.int k) (fun n=>(Lit.int k n).wf=true):=by
 intro H enc w spare held fuel cs x h
 obtain ⟨n,rfl,_,hw⟩:=DataW.trod_int ht h
 exact ⟨n,rfl,hw⟩
theorem list_of {α:Type} {Q:Nat->α->Prop} (n:Nat) (h:∀i,i<n->∃a,Q i a):∃l:List α,l.length=n/\∀ (i:Nat) (a:α),l[i]? = some a->Q i a:=by
 induction n with
 | zero=>exact ⟨[],rfl,fun i a hi=>by simp at hi⟩
 | succ n ih =>
  obtain ⟨l,hl,hq⟩:=ih (fun i hi=>h i (by omega))
  obtain ⟨a,ha⟩:=h n (by omega)
  refine ⟨l++[a],by simp [hl],fun i b hb=>?_⟩
  by_cases hi:i<n
  ·rw [List.getElem?_append_left (by omega)] at hb;exact hq i b hb
  ·have hi2:i<(l++[a]).length:=(List.getElem?_eq_some_iff.1 hb).1
   have:i=n:=by simp at hi2;omega
   subst this
   rw [List.getElem?_append_right (by omega),hl,Nat.sub_self] at hb
   simp at hb
   subst hb
   exact ha
theorem Opens.slice {P:Program} {T E:TypeId} {α:Type} {d:Kd α} {ok:α->Prop} (ht:P.underlying T=some (.slice E)) (hs:P.cellsOf E=d.sz) (h:Opens P E d ok) :
  Opens P T (Kd.slice E d) (fun l=>l.length<=9223372036854775807/\∀x∈l,ok x):=by
 intro H enc w spare held fuel cs x hx
 rcases open_slice ht hx with ⟨rfl,_⟩|⟨a,len,cap,m,n,D,Pl,rfl,_,hl,hm,hmm,_,hi⟩
 ·exact ⟨[],⟨none,0,rfl,Nat.le_refl _,rfl,by simp,fun hn=>by simp at hn⟩,by simp,fun x hx=>by cases hx⟩
 ·have hlm:len<=m:=by rw [hmm];split<;>omega
  obtain ⟨l,hll,hq⟩:=list_of (Q:=fun i (y:α)=>∃cs',w.cells? 0 (a.add (i*P.cellsOf E)) (P.cellsOf E)=some cs'/\d.K w y cs'/\ok y) len (fun i hil=>by
   obtain ⟨cs',hc,htr⟩:=hi i (by omega)
   obtain ⟨y,hK,hok⟩:=h enc w spare held n cs' _ htr
   exact ⟨y,cs',hc,hK,hok⟩)
  unfold maxLen at hm
  refine ⟨l,⟨some a,cap,by rw [hll],by omega,rfl,by omega,fun _=>⟨a,rfl,fun j p hj=>?_⟩⟩,by omega,fun y hy=>?_⟩
  ·obtain ⟨cs',hc,hK,_⟩:=hq j p hj
   obtain ⟨_,hcl,hat⟩:=World.cells?_some hc
   refine ⟨cs',d.K_len hK,hK,fun i u hu=>?_⟩
   rw [<-hs,<-Go.Deep.add_add,hat i (by have:=(List.getElem?_eq_some_iff.1 hu).1;omega),hu]
  ·obtain ⟨j,hj⟩:=List.getElem?_of_mem hy
   obtain ⟨_,_,_,hok⟩:=hq j y hj
   exact hok
def Parsed {H:Type} (enc:TypeId × Value->H) (P:Program) (w:World) (spare:Nat->Bool) (held:Bool) (n:Nat):List TypeId->List Value->Prop
 | [],cs=>cs = []
 | T::Ts,cs=>(∃x,DataW.trod enc P w 0 spare held n T (cs.take (P.cellsOf T))=some x)/\Parsed enc P w spare held n Ts (cs.drop (P.cellsOf T))
def OpensL (P:Program) (Ts:List TypeId) {α:Type} (d:Kd α) (ok:α->Prop):Prop :=
 ∀ {H:Type} (enc:TypeId × Value->H) (w:World) (spare:Nat->Bool) (held:Bool) (n:Nat) (cs:List Value),Parsed enc P w spare held n Ts cs->∃a:α,d.K w a cs/\ok a
theorem OpensL.one {P:Program} {T:TypeId} {α:Type} {d:Kd α} {ok:α->Prop} (h:Opens P T d ok):OpensL P [T] d ok:=by
 intro H enc w spare held n cs hp
 obtain ⟨⟨x,hx⟩,hd⟩:=hp
 have he:cs=cs.take (P.cellsOf T):=by
  have:=List.take_append_drop (P.cellsOf T) cs
  rw [show cs.drop (P.cellsOf T) = [] from hd,List.append_nil] at this
  exact this.symm
 rw [<-he] at hx
 exact h enc w spare held n cs x hx
theorem OpensL.cons {P:Program} {T:TypeId} {Ts:List TypeId} {α β:Type} {d:Kd α} {e:Kd β} {ok:α->Prop} {ok':β->Prop} (h:Opens P T d ok) (hs:OpensL P Ts e ok'):OpensL P (T::Ts) (Kd.pair d e) (fun p=>ok p.1/\ok' p.2):=by
 intro H enc w spare held n cs hp
 obtain ⟨⟨x,hx⟩,hd⟩:=hp
 obtain ⟨a,hK,ha⟩:=h enc w spare held n _ x hx
 obtain ⟨b,hK2,hb⟩:=hs enc w spare held n _ hd
 exact ⟨(a,b),⟨_,_,(List.take_append_drop _ _).symm,hK,hK2⟩,ha,hb⟩
theorem OpensL.iso {P:Program} {Ts:List TypeId} {α β:Type} {d:Kd α} {ok:α->Prop} (h:OpensL P Ts d ok) (f:β->α) (g:α->β) (hfg:∀a,f (g a)=a):OpensL P Ts (Kd.iso d f) (fun b=>ok (f b)):=by
 intro H enc w spare held n cs hp
 obtain ⟨a,hK,ha⟩:=h enc w spare held n cs hp
 exact ⟨g a,by show d.K w (f (g a)) cs;rw [hfg];exact hK,by show ok (f (g a));rw [hfg];exact ha⟩
def inRow (P:Program):List (TypeId × Nat)->Nat->Bool
 | [],_=>true
 | (T,o)::l,at_=>o == at_ && inRow P l (at_+P.cellsOf T)
def total (P:Program) (l:List (TypeId × Nat)):Nat:=l.foldl (fun n T=>n+P.cellsOf T.1) 0
theorem parsed_of {H:Type} {enc:TypeId × Value->H} {P:Program} {w:World} {spare:Nat->Bool} {held:Bool} {n:Nat} (cs:List Value):∀ (l:List (TypeId × Nat)) (o:Nat),inRow P l o=true →
  (∀ (i:Nat) (f:TypeId × Nat),l[i]? = some f->∃x,DataW.trod enc P w 0 spare held n f.1 ((cs.drop f.2).take (P.cellsOf f.1))=some x)->cs.length=l.foldl (fun n T=>n+P.cellsOf T.1) o->Parsed enc P w spare held n (l.map (·.1)) (cs.drop o)
 | [],o,_,_,hl=>by simp at hl;exact List.drop_of_length_le (by omega)
 | (T,o')::l,o,hr,hf,hl=>by
  simp only [inRow,Bool.and_eq_true,beq_iff_eq] at hr
  obtain ⟨rfl,hr⟩:=hr
  refine ⟨hf 0 _ rfl,?_⟩
  rw [List.drop_drop]
  exact parsed_of cs l _ hr (fun i f hi=>hf (i+1) f hi) hl
theorem Opens.struct {P:Program} {T:TypeId} {fs:Array Field} {α:Type} {d:Kd α} {ok:α->Prop} (ht:P.underlying T=some (.struct fs)) {Ts:List TypeId} (h:OpensL P Ts d ok)
  (hT:fs.toList.map (·.type)=Ts) (hr:inRow P (fs.toList.map fun f=>(f.type,f.offset)) 0=true) (hc:P.cellsOf T=total P (fs.toList.map fun f=>(f.type,f.offset))):Opens P T d ok:=by
 intro H enc w spare held fuel cs x hx
 obtain ⟨xs,n,_,_,hcl,hlen,hf⟩:=DataW.trod_struct ht hx
 have hp:=parsed_of (enc:=enc) (P:=P) (w:=w) (spare:=spare) (held:=held) (n:=n) cs (fs.toList.map fun f=>(f.type,f.offset)) 0 hr (fun i f hi=>by
  rw [List.getElem?_map] at hi
  obtain ⟨g,hg,rfl⟩:=Option.map_eq_some_iff.1 hi
  have hg':fs[i]? = some g:=by simpa using hg
  have hlt:i<fs.size:=(Array.getElem?_eq_some_iff.1 hg').1
  exact ⟨_,(hf i g hg').trans (List.getElem?_eq_getElem (by omega))⟩) (by rw [hcl,hc];rfl)
 rw [List.map_map] at hp
 have e:(List.map ((fun x=>x.1) ∘ fun f:Field=>(f.type,f.offset)) fs.toList)=Ts:=hT
 rw [e] at hp
 exact h enc w spare held n cs hp
theorem Opens.array {P:Program} {T E:TypeId} {m:Nat} {α:Type} {d:Kd α} {ok:α->Prop} (ht:P.underlying T=some (.array m E)) {Ts:List TypeId} (h:OpensL P Ts d ok)
  (hT:List.replicate m E=Ts) (hr:inRow P ((List.range m).map fun i=>(E,i*P.cellsOf E)) 0=true) (hc:P.cellsOf T=total P ((List.range m).map fun i=>(E,i*P.cellsOf E))):Opens P T d ok:=by
 intro H enc w spare held fuel cs x hx
 obtain ⟨xs,n,_,_,hcl,hlen,hf⟩:=DataW.trod_array ht hx
 have hp:=parsed_of (enc:=enc) (P:=P) (w:=w) (spare:=spare) (held:=held) (n:=n) cs ((List.range m).map fun i=>(E,i*P.cellsOf E)) 0 hr (fun i f hi=>by
  rw [List.getElem?_map] at hi
  obtain ⟨g,hg,rfl⟩:=Option.map_eq_some_iff.1 hi
  have hg2:=List.getElem?_eq_some_iff.1 hg
  obtain ⟨hlt,hge⟩:=hg2
  simp at hlt hge
  subst hge
  exact ⟨_,(hf i hlt).trans (List.getElem?_eq_getElem (by omega))⟩) (by rw [hcl,hc];rfl)
 have e:(List.map (fun x=>x.1) ((List.range m).map fun i=>(E,i*P.cellsOf E)))=Ts:=by
  rw [<-hT,List.map_map]
  apply List.ext_getElem?
  intro i
  by_cases hi:i<m<;>simp [hi]
 rw [List.drop_zero,e] at hp
 exact h enc w spare held n cs hp
theorem Opens.trod {P:Program} {T:TypeId} {α:Type} {d:Kd α} {ok:α->Prop} (h:Opens P T d ok) {H:Type} {enc:TypeId × Value->H} {w:World} {spare:Nat->Bool} {held:Bool} {v:Value} {x:DataW H} {p:List MemPlace}
  (ht:DataW.Trod enc P w 0 spare held T v x p):∃a:α,d.K w a v.cells.toList/\ok a:=by
 obtain ⟨fuel,hf⟩:=ht
 exact h enc w spare held fuel _ _ hf
end Go.Proofs.Ytfldklimlcnnnaa.MOpen
end

section
namespace Go.Proofs.Ytfldklimlcnnnaa.MWords
open Go.RowKit YtfldklimlcnnnaaW.PrintWords YtfldklimlcnnnaaW.PrintLast YtfldklimlcnnnaaW.PrintMore
def MBlk (w:World) (g:Nat) (t:TypeId) (cs:Array Value):Prop:=w.heap[g]? = some (.cells cs t (0,0))
theorem Zn {w:World} {g:Nat} {t:TypeId} {cs:Array Value} (h:MBlk w g t cs):g<w.heap.size:=by
 rcases Nat.lt_or_ge g w.heap.size with hlt|hge
 ·exact hlt
 ·unfold MBlk at h;rw [Array.getElem?_eq_none hge] at h;cases h
theorem Zg {w:World} {g:Nat} {t:TypeId} {cs:Array Value} (h:MBlk w g t cs) (i:Nat):w.cell? ⟨g,i,none⟩=cs[i]?:=cell_of_row w g i cs t (0,0) h
theorem Zq {w:World} {g:Nat} {t:TypeId} {cs:Array Value} (h:MBlk w g t cs) (i:Nat):w.frozen? ⟨g,i,none⟩=false:=by
 unfold MBlk at h
 simp [World.frozen?,h]
theorem Zo (w:World) (t:TypeId) (cs:Array Value):MBlk (w.alloc (.cells cs t)) w.heap.size t cs:=heap_alloc_new w _
theorem mblk_drewN {w:World} {g:Nat} {t:TypeId} {cs:Array Value} (h:MBlk w g t cs) (n:Nat):MBlk (w.drewN n) g t cs:=h
theorem Zp {w:World} {g:Nat} {t:TypeId} {cs:Array Value} (h:MBlk w g t cs) (o:Obj):MBlk (w.alloc o) g t cs:=(Below.heap_alloc w o g (Zn h)).trans h
theorem mblk_set {w:World} {g:Nat} {t:TypeId} {cs:Array Value} (h:MBlk w g t cs) (i:Nat) (u:Value):MBlk (w.setCell ⟨g,i,none⟩ u) g t (cs.setIfInBounds i u):=by
 unfold MBlk at h ⊢
 simp [World.setCell,Array.getElem?_modify,h]
theorem mblk_far {w:World} {g:Nat} {t:TypeId} {cs:Array Value} (h:MBlk w g t cs) {p:Addr} (hp:g≠p.block) (u:Value):MBlk (w.setCell p u) g t cs:=(Below.heap_setCell w p u g hp).trans h
theorem mblk_ne {w:World} {g g':Nat} {t t':TypeId} {cs cs':Array Value} (h:MBlk w g t cs) (h':MBlk w g' t' cs') (hne:t≠t'):g≠g':=by
 rintro rfl
 unfold MBlk at h h'
 rw [h] at h'
 injection h' with h'
 injection h' with _ ht
 exact hne ht
section
variable {α:Type} {d:Kd α} {e base:Nat} {ok:Nat->Prop} {W:World} {v:Value} {xs:List α}
end
theorem noGoto_ret_i {Q:Exit->Act->World->Prop} {a:Act} {w:World} (h:Q .ret a w):Exit.noGoto Q .ret a w:=h
theorem mblk_F {W:World} {b e:Nat} {k:IntKind} {ok:Nat->Prop} {xs:List Int} (h:MBlk W b e (nums k xs).toArray) (hx:xs.length<=9223372036854775807) (hok:ok b):Kd.F (Kd.int k) W ok (some ⟨b,0,none⟩) xs.length xs:=by
 intro W' hW
 have h':MBlk W' b e (nums k xs).toArray:=(hW b hok (Zn h)).trans h
 refine Kd.C_of_reads (d:=(0:Int)) ⟨rfl,hx,fun _=>⟨_,rfl,fun j hj=>?_⟩⟩
 have e1:(⟨b,0,none⟩:Addr).add j=⟨b,j,none⟩:=by unfold Addr.add;split<;>simp_all
 rw [e1,Zg h']
 simp [nums,List.getD,List.getElem?_eq_getElem hj]
theorem mblk_V {W:World} {b e e' base m:Nat} {k:IntKind} {ok:Nat->Prop} {xs:List Int} (h:MBlk W b e (nums k xs).toArray) (hx:xs.length<=9223372036854775807) (hok:ok b) (hm:m<=xs.length) :
  Kd.V (Kd.int k) e' W base ok (.slice (some ⟨b,0,none⟩) m m) (xs.take m):=by
 have h1:=Kd.F_take (m:=m) (mblk_F h hx hok) hm
 have h2:(xs.take m).length=m:=by rw [List.length_take];omega
 exact ⟨_,m,by rw [h2],by omega,h1⟩
theorem mblk_reads {W:World} {b e:Nat} {k:IntKind} {xs:List Int} (h:MBlk W b e (nums k xs).toArray) (hx:xs.length<=9223372036854775807):ReadsInt W k (some ⟨b,0,none⟩) xs.length xs :=
 Kd.reads_of_C (d:=(0:Int)) (h1:=fun _=>rfl) (Kd.F_now (mblk_F (ok:=fun _=>True) h hx trivial))
theorem made_nums (k:IntKind) (m:Nat):madeCells #[Value.int k 0] m=(nums k (List.replicate m 0)).toArray:=by
 apply Array.ext
 ·simp [nums,size_madeCells]
 ·intro i h1 h2
  simp [nums,madeCells,Nat.mod_one]
end Go.Proofs.Ytfldklimlcnnnaa.MWords
end

section
namespace Go.Proofs.Ytfldklimlcnnnaa.PHq
open Go.RowKit YtfldklimlcnnnaaW.PrintWords YtfldklimlcnnnaaW.PrintLast YtfldklimlcnnnaaW.PrintMore MWords
attribute [local go_sem] max2_int min2_int max_two min_two max_three min_three max_four min_four   -- for this text's walks alone
def errW:Option Int->Value
 | none=>.nilIface
 | some c=>.iface 0 (.int .i64 c)
theorem Zm:errW none=.nilIface:=rfl
theorem Zl (c:Int):errW (some c)=.iface 0 (.int .i64 c):=rfl
theorem info3:(Try.prog.info? 3).map (fun i=>(i.zero,i.size,i.bytes))=some (some (.int .i64 0),1,8):=by kernel_rfl
theorem info34:(Try.prog.info? 34).map (fun i=>(i.zero,i.size,i.bytes))=some (some (.agg #[(.int .i64 0),(.int .i64 0)]),2,16):=by kernel_rfl
theorem info71:(Try.prog.info? 71).map (fun i=>(i.zero,i.size,i.bytes))=some (some (.agg #[(.int .i64 0),(.int .i64 0),(.int .i64 0)]),3,24):=by kernel_rfl
theorem info89:(Try.prog.info? 89).map (fun i=>(i.zero,i.size,i.bytes))=some (some (.int .u32 0),1,4):=by kernel_rfl
structure S34 where
 f0:Int
 f1:Int
def z34:S34:=⟨(0:Int),(0:Int)⟩
def k34:Kd S34:=Kd.iso (Kd.pair (Kd.int .i64) (Kd.int .i64)) (fun x:S34=>(x.f0,x.f1))
theorem k34_open {w:World} {x:S34} {cs:List Value} (h:k34.K w x cs):cs = [.int .i64 x.f0,.int .i64 x.f1]:=by
 obtain ⟨_,_,rfl,rfl,rfl⟩:=h
 exact rfl
theorem k34_openM {w:World} {base:Nat} {ok:Nat->Prop} {x:S34} {cs:List Value} (h:k34.M w base ok x cs):cs = [.int .i64 x.f0,.int .i64 x.f1]:=by
 obtain ⟨_,_,rfl,rfl,rfl⟩:=h
 exact rfl
theorem k34_mk (w:World) (x:S34) : k34.K w x [.int .i64 x.f0,.int .i64 x.f1]:=⟨[.int .i64 x.f0],[.int .i64 x.f1],rfl,rfl,rfl⟩
theorem k34_mkM (w:World) (base:Nat) (ok:Nat->Prop) (x:S34) : k34.M w base ok x [.int .i64 x.f0,.int .i64 x.f1]:=⟨[.int .i64 x.f0],[.int .i64 x.f1],rfl,rfl,rfl⟩
def rd_T34 (xs:List S34) (i:Int):S34:=xs.getD i.toNat z34
theorem at_T34 {w:World} {A:Option Addr} {n:Nat} {xs:List S34} (h:Kd.C k34 w A n xs) (i:Int) (h0:0<=i) (h1:i<n):∃ad ,A=some ad/\w.cell? (ad.add (i.toNat*2))=some (.int .i64 (rd_T34 xs i).f0)/\w.cell? ⟨(ad.add (i.toNat*2)).block,(ad.add (i.toNat*2)).off+1,none⟩=some (.int .i64 (rd_T34 xs i).f1):=by
 obtain ⟨ad,c,e,_,hK,hc0⟩:=Kd.C_get h z34 i h0 h1
 have hc:∀j u,c[j]? = some u->w.cell? (ad.add (i.toNat*2+j))=some u:=hc0
 obtain rfl:=k34_open hK
 exact ⟨ad,e,hc 0 _ rfl,by rw [<-add_field _ _ 1 (by omega)];exact hc 1 _ rfl⟩
structure S71 where
 f0:Int
 f1:S34
def z71:S71:=⟨(0:Int),z34⟩
def k71:Kd S71:=Kd.iso (Kd.pair (Kd.int .i64) k34) (fun x:S71=>(x.f0,x.f1))
theorem k71_open {w:World} {x:S71} {cs:List Value} (h:k71.K w x cs):cs = [.int .i64 x.f0,.int .i64 x.f1.f0,.int .i64 x.f1.f1]:=by
 obtain ⟨_,_,rfl,rfl,s1⟩:=h
 obtain rfl:=k34_open s1
 exact rfl
theorem k71_mk (w:World) (x:S71) : k71.K w x [.int .i64 x.f0,.int .i64 x.f1.f0,.int .i64 x.f1.f1]:=⟨[.int .i64 x.f0],[.int .i64 x.f1.f0,.int .i64 x.f1.f1],rfl,rfl,(k34_mk w x.f1 )⟩
theorem k71_mkM (w:World) (base:Nat) (ok:Nat->Prop) (x:S71) : k71.M w base ok x [.int .i64 x.f0,.int .i64 x.f1.f0,.int .i64 x.f1.f1]:=⟨[.int .i64 x.f0],[.int .i64 x.f1.f0,.int .i64 x.f1.f1],rfl,rfl,(k34_mkM w base ok x.f1 )⟩
def rd_T71 (xs:List S71) (i:Int):S71:=xs.getD i.toNat z71
theorem at_T71 {w:World} {A:Option Addr} {n:Nat} {xs:List S71} (h:Kd.C k71 w A n xs) (i:Int) (h0:0<=i) (h1:i<n):∃ad ,A=some ad/\w.cell? (ad.add (i.toNat*3))=some (.int .i64 (rd_T71 xs i).f0)/\w.cell? ⟨(ad.add (i.toNat*3)).block,(ad.add (i.toNat*3)).off+1,none⟩=some (.int .i64 (rd_T71 xs i).f1.f0)/\w.cell? ⟨(ad.add (i.toNat*3)).block,(ad.add (i.toNat*3)).off+2,none⟩=some (.int .i64 (rd_T71 xs i).f1.f1):=by
 obtain ⟨ad,c,e,_,hK,hc0⟩:=Kd.C_get h z71 i h0 h1
 have hc:∀j u,c[j]? = some u->w.cell? (ad.add (i.toNat*3+j))=some u:=hc0
 obtain rfl:=k71_open hK
 exact ⟨ad,e,hc 0 _ rfl,by rw [<-add_field _ _ 1 (by omega)];exact hc 1 _ rfl,by rw [<-add_field _ _ 2 (by omega)];exact hc 2 _ rfl⟩
structure S39 where
 f0:Int
 f1:Int
def z39:S39:=⟨(0:Int),(0:Int)⟩
def k39:Kd S39:=Kd.iso (Kd.pair (Kd.int .i64) (Kd.int .i64)) (fun x:S39=>(x.f0,x.f1))
theorem k39_open {w:World} {x:S39} {cs:List Value} (h:k39.K w x cs):cs = [.int .i64 x.f0,.int .i64 x.f1]:=by
 obtain ⟨_,_,rfl,rfl,rfl⟩:=h
 exact rfl
def rd_T39 (xs:List S39) (i:Int):S39:=xs.getD i.toNat z39
theorem at_T39 {w:World} {A:Option Addr} {n:Nat} {xs:List S39} (h:Kd.C k39 w A n xs) (i:Int) (h0:0<=i) (h1:i<n):∃ad ,A=some ad/\w.cell? (ad.add (i.toNat*2))=some (.int .i64 (rd_T39 xs i).f0)/\w.cell? ⟨(ad.add (i.toNat*2)).block,(ad.add (i.toNat*2)).off+1,none⟩=some (.int .i64 (rd_T39 xs i).f1):=by
 obtain ⟨ad,c,e,_,hK,hc0⟩:=Kd.C_get h z39 i h0 h1
 have hc:∀j u,c[j]? = some u->w.cell? (ad.add (i.toNat*2+j))=some u:=hc0
 obtain rfl:=k39_open hK
 exact ⟨ad,e,hc 0 _ rfl,by rw [<-add_field _ _ 1 (by omega)];exact hc 1 _ rfl⟩
structure S86 where
 f0:Int
 f1:Int
 f2:S34
 f3:S34
 f4:Bool
def z86:S86:=⟨(0:Int),(0:Int),z34,z34,false⟩
def k86:Kd S86:=Kd.iso (Kd.pair (Kd.int .i64) (Kd.pair (Kd.int .i64) (Kd.pair k34 (Kd.pair k34 Kd.bool)))) (fun x:S86=>(x.f0,x.f1,x.f2,x.f3,x.f4))
theorem k86_open {w:World} {x:S86} {cs:List Value} (h:k86.K w x cs):cs = [.int .i64 x.f0,.int .i64 x.f1,.int .i64 x.f2.f0,.int .i64 x.f2.f1,.int .i64 x.f3.f0,.int .i64 x.f3.f1,.bool x.f4]:=by
 obtain ⟨_,_,rfl,rfl,⟨_,_,rfl,rfl,⟨_,_,rfl,s2,⟨_,_,rfl,s4,rfl⟩⟩⟩⟩:=h
 obtain rfl:=k34_open s2
 obtain rfl:=k34_open s4
 exact rfl
theorem k86_openM {w:World} {base:Nat} {ok:Nat->Prop} {x:S86} {cs:List Value} (h:k86.M w base ok x cs):cs = [.int .i64 x.f0,.int .i64 x.f1,.int .i64 x.f2.f0,.int .i64 x.f2.f1,.int .i64 x.f3.f0,.int .i64 x.f3.f1,.bool x.f4]:=by
 obtain ⟨_,_,rfl,rfl,⟨_,_,rfl,rfl,⟨_,_,rfl,s2,⟨_,_,rfl,s4,rfl⟩⟩⟩⟩:=h
 obtain rfl:=k34_openM s2
 obtain rfl:=k34_openM s4
 exact rfl
theorem k86_mk (w:World) (x:S86) : k86.K w x [.int .i64 x.f0,.int .i64 x.f1,.int .i64 x.f2.f0,.int .i64 x.f2.f1,.int .i64 x.f3.f0,.int .i64 x.f3.f1,.bool x.f4]:=⟨[.int .i64 x.f0],[.int .i64 x.f1,.int .i64 x.f2.f0,.int .i64 x.f2.f1,.int .i64 x.f3.f0,.int .i64 x.f3.f1,.bool x.f4],rfl,rfl,⟨[.int .i64 x.f1],[.int .i64 x.f2.f0,.int .i64 x.f2.f1,.int .i64 x.f3.f0,.int .i64 x.f3.f1,.bool x.f4],rfl,rfl,⟨[.int .i64 x.f2.f0,.int .i64 x.f2.f1],[.int .i64 x.f3.f0,.int .i64 x.f3.f1,.bool x.f4],rfl,(k34_mk w x.f2 ),⟨[.int .i64 x.f3.f0,.int .i64 x.f3.f1],[.bool x.f4],rfl,(k34_mk w x.f3 ),rfl⟩⟩⟩⟩
theorem k86_mkM (w:World) (base:Nat) (ok:Nat->Prop) (x:S86) : k86.M w base ok x [.int .i64 x.f0,.int .i64 x.f1,.int .i64 x.f2.f0,.int .i64 x.f2.f1,.int .i64 x.f3.f0,.int .i64 x.f3.f1,.bool x.f4]:=⟨[.int .i64 x.f0],[.int .i64 x.f1,.int .i64 x.f2.f0,.int .i64 x.f2.f1,.int .i64 x.f3.f0,.int .i64 x.f3.f1,.bool x.f4],rfl,rfl,⟨[.int .i64 x.f1],[.int .i64 x.f2.f0,.int .i64 x.f2.f1,.int .i64 x.f3.f0,.int .i64 x.f3.f1,.bool x.f4],rfl,rfl,⟨[.int .i64 x.f2.f0,.int .i64 x.f2.f1],[.int .i64 x.f3.f0,.int .i64 x.f3.f1,.bool x.f4],rfl,(k34_mkM w base ok x.f2 ),⟨[.int .i64 x.f3.f0,.int .i64 x.f3.f1],[.bool x.f4],rfl,(k34_mkM w base ok x.f3 ),rfl⟩⟩⟩⟩
def rd_T86 (xs:List S86) (i:Int):S86:=xs.getD i.toNat z86
theorem at_T86 {w:World} {A:Option Addr} {n:Nat} {xs:List S86} (h:Kd.C k86 w A n xs) (i:Int) (h0:0<=i) (h1:i<n):∃ad ,A=some ad/\w.cell? (ad.add (i.toNat*7))=some (.int .i64 (rd_T86 xs i).f0)/\w.cell? ⟨(ad.add (i.toNat*7)).block,(ad.add (i.toNat*7)).off+1,none⟩=some (.int .i64 (rd_T86 xs i).f1)/\w.cell? ⟨(ad.add (i.toNat*7)).block,(ad.add (i.toNat*7)).off+2,none⟩=some (.int .i64 (rd_T86 xs i).f2.f0)/\w.cell? ⟨(ad.add (i.toNat*7)).block,(ad.add (i.toNat*7)).off+3,none⟩=some (.int .i64 (rd_T86 xs i).f2.f1)/\w.cell? ⟨(ad.add (i.toNat*7)).block,(ad.add (i.toNat*7)).off+4,none⟩=some (.int .i64 (rd_T86 xs i).f3.f0)/\w.cell? ⟨(ad.add (i.toNat*7)).block,(ad.add (i.toNat*7)).off+5,none⟩=some (.int .i64 (rd_T86 xs i).f3.f1)/\w.cell? ⟨(ad.add (i.toNat*7)).block,(ad.add (i.toNat*7)).off+6,none⟩=some (.bool (rd_T86 xs i).f4):=by
 obtain ⟨ad,c,e,_,hK,hc0⟩:=Kd.C_get h z86 i h0 h1
 have hc:∀j u,c[j]? = some u->w.cell? (ad.add (i.toNat*7+j))=some u:=hc0
 obtain rfl:=k86_open hK
 exact ⟨ad,e,hc 0 _ rfl,by rw [<-add_field _ _ 1 (by omega)];exact hc 1 _ rfl,by rw [<-add_field _ _ 2 (by omega)];exact hc 2 _ rfl,by rw [<-add_field _ _ 3 (by omega)];exact hc 3 _ rfl,by rw [<-add_field _ _ 4 (by omega)];exact hc 4 _ rfl,by rw [<-add_field _ _ 5 (by omega)];exact hc 5 _ rfl,by rw [<-add_field _ _ 6 (by omega)];exact hc 6 _ rfl⟩
end Go.Proofs.Ytfldklimlcnnnaa.PHq
end

section
namespace Go.Proofs.Ytfldklimlcnnnaa.PHq
open Go.RowKit YtfldklimlcnnnaaW.PrintWords YtfldklimlcnnnaaW.PrintLast YtfldklimlcnnnaaW.PrintMore MWords
attribute [local go_sem] max2_int min2_int max_two min_two max_three min_three max_four min_four   -- for this text's walks alone
def nat_Check.f (l0:List Int):Option (Bool):=if (l0.length:Int)=0 then (some true) else (if 0<=(wrap64 ((l0.length:Int)-1)) then (if (wrap64 ((l0.length:Int)-1))<(l0.length:Int) then (some ((rd l0 (wrap64 ((l0.length:Int)-1))) != 0)) else (none)) else (none))
set_option maxHeartbeats 8000000 in
set_option maxRecDepth 100000 in
theorem nat_Check.calls (A0:Option Addr) (c0:Nat) (l0:List Int) (r:Bool) (w:World) (hr0:Kd.C (Kd.int .u32) w A0 l0.length l0) (hc0:l0.length<=c0) (h:nat_Check.f l0=some r) :
  Calls Try.prog 97 #[.slice A0 l0.length c0] w fun e w'=>e=.returned (.bool r)/\Drawn0 w w':=by
 have HR0:=Zz.mk hr0
 have HC0:=Zz.mk hc0
 clear hr0 hc0
 have H:(if (l0.length:Int)=0 then (some true) else (if 0<=(wrap64 ((l0.length:Int)-1)) then (if (wrap64 ((l0.length:Int)-1))<(l0.length:Int) then (some ((rd l0 (wrap64 ((l0.length:Int)-1))) != 0)) else (none)) else (none)))=some r:=h
 clear h
 by_cases c2:(l0.length:Int)=0
 ·rw [if_pos c2] at H
  have c2b0:((l0.length:Int) == 0)=true:=beq_iff_eq.mpr c2
  have c2b1:((l0.length:Int) != 0)=false:=bne_eq_false_iff_eq.mpr c2
  clear c2
  obtain rfl:=Option.some.inj H
  go_enter Try.func97,Try.ntmps97
  go_wp2
  go_ret
  exact ⟨by first|rfl|(simp;done)|(simp [*];done),by repeat (first|exact Drawn0.refl _|apply Drawn0.step)⟩
 ·rw [if_neg c2] at H
  have c2b0:((l0.length:Int) == 0)=false:=beq_eq_false_iff_ne.mpr c2
  have c2b1:((l0.length:Int) != 0)=true:=bne_iff_ne.mpr c2
  have c2b2:¬ (l0 = []):=fun h_=>c2 (by rw [h_];rfl)
  obtain ⟨ji3,hji3⟩:∃j_:Int,(wrap64 ((l0.length:Int)-1))=j_:=⟨_,rfl⟩
  replace H:(if 0<=(ji3) then (if (ji3)<(l0.length:Int) then (some ((rd l0 (ji3)) != 0)) else (none)) else (none))=some r:=by first|(rw [hji3] at H;exact H)|(simp only [hji3] at H ⊢;exact H)
  have hji3w:(IntKind.i64.wrap ((l0.length:Int)-1))=ji3:=(Z6 _).trans hji3
  by_cases c4:0<=(ji3)
  ·rw [if_pos c4] at H
   have c4b0:decide (0<=(ji3))=true:=decide_eq_true c4
   clear c4
   by_cases c5:(ji3)<(l0.length:Int)
   ·rw [if_pos c5] at H
    have c5b0:decide ((ji3)<(l0.length:Int))=true:=decide_eq_true c5
    clear c5
    obtain rfl:=Option.some.inj H
    have p101:0<=((ji3):Int):=of_decide_eq_true (by first|(with_reducible assumption)|assumption)
    have q101:(ji3)<(l0.length:Int):=of_decide_eq_true (by first|(with_reducible assumption)|assumption)
    obtain ⟨ad101,e101,hx101_0⟩:=Kd.at_int HR0.out (ji3) p101 q101
    cases e101
    replace p101:=eq_true p101
    replace q101:=eq_true q101
    go_enter Try.func97,Try.ntmps97
    go_wp2
    go_ret
    exact ⟨by first|rfl|(simp;done)|(simp only [<-hji3]<;>(first|rfl|simp))|(simp [*];done),by repeat (first|exact Drawn0.refl _|apply Drawn0.step)⟩
   ·rw [if_neg c5] at H
    exact absurd H (by simp)
  ·rw [if_neg c4] at H
   exact absurd H (by simp)
open MNat MWords in
def nat_cut.f (l0:List Int):Option (List Int):=some (MNat.trim l0)
section
open MNat MWords
set_option maxHeartbeats 400000 in
theorem cut_any (A:Option Addr) (n c:Nat) (xs:List Int) (w:World) (hr:ReadsInt w .u32 A n xs) (hc:n<=c) :
  Calls Try.prog 119 #[.slice A n c] w fun e w'=>∃m,e=.returned (.slice A m m)/\trim xs=xs.take m/\m<=n/\w'=w:=by
 obtain ⟨hl,hn,hx⟩:=hr
 have hl':=Zz.mk hl
 have hx':=Zz.mk hx
 clear hx
 go_enter Try.func119,Try.ntmps119
 go_wp2_with (go_step3)
 go_loop [3] (fun v=>∃k:Nat,k<=n/\v=.int .i64 k/\Zz (trim xs=trim (xs.take k))) (fun v=>(intOf v).toNat)
 case atStart=>exact ⟨n,Nat.le_refl _,rfl,⟨by rw [List.take_of_length_le (by omega)]⟩⟩
 case round =>
  obtain ⟨k,hk,rfl,ht⟩:=hrel
  by_cases h0:k=0
  ·subst h0
   go_wp2_with (first|go_step3|(with_reducible refine noGoto_exit_i ?_)|(with_reducible refine noGoto_ret_i ?_))
   go_ret
   exact ⟨0,rfl,by rw [ht.out];rfl,by omega,rfl⟩
  ·obtain ⟨j,rfl⟩:∃j,k=j+1:=⟨k-1,by omega⟩
   obtain ⟨ad,rfl,hcell⟩:=hx'.out (by omega)
   have hc1:=hcell j (by omega)
   clear hcell
   by_cases hz:xs.getD j 0=0
   ·have ht':=Zz.mk (show trim xs=trim (xs.take j) by rw [ht.out,take_succ_rd _ _ (by omega),hz,trim_snoc0])
    rw [hz] at hc1
    clear hz
    go_wp2_with (first|go_step3|(with_reducible refine noGoto_exit_i ?_)|(with_reducible refine noGoto_ret_i ?_))
    go_round
    case rel=>exact ⟨j,by omega,by go_num,ht'⟩
    case measure=>simp [intOf]
   ·have ht':=Zz.mk (show trim xs=xs.take (j+1) by rw [ht.out,take_succ_rd _ _ (by omega),trim_snoc _ _ hz])
    have hz1:((xs.getD j 0) == 0)=false:=by simpa using hz
    have hz2:((xs.getD j 0) != 0)=true:=by simpa using hz
    generalize hX:xs.getD j 0=X at *
    clear hX hz
    go_wp2_with (first|go_step3|(with_reducible refine noGoto_exit_i ?_)|(with_reducible refine noGoto_ret_i ?_))
    go_ret
    exact ⟨j+1,rfl,ht'.out,by omega,rfl⟩
theorem nat_cut.calls (P0_:Nat->Prop) (A0:Option Addr) (c0:Nat) (l0:List Int) (r:List Int) (w:World) (hs0:Kd.V (Kd.int .u32) 89 w w.heap.size (fun k_=>P0_ k_) (.slice A0 l0.length c0) l0) (h:nat_cut.f l0=some r) :
  Calls Try.prog 119 #[.slice A0 l0.length c0] w fun e w'=>∃v0_:Value,e=.returned (v0_)/\Kd.V (Kd.int .u32) 89 w' w.heap.size (fun k_=>(P0_ k_∨w.heap.size<=k_)) v0_ r/\Below w.heap.size w w':=by
 obtain rfl:=Option.some.inj h
 have hv:=Kd.V_reads' hs0
 refine (cut_any A0 l0.length c0 l0 w (Kd.reads_of_C (d:=(0:Int)) (h1:=fun _=>rfl) hv.2.2) hv.2.1).mono ?_
 rintro e w' ⟨m,rfl,hm,hml,rfl⟩
 refine ⟨_,rfl,?_,Below.refl _ _⟩
 have h1:=Kd.F_take (m:=m) (Kd.V_F hs0) hml
 have h2:(l0.take m).length=m:=by rw [List.length_take];omega
 rw [hm]
 exact ⟨_,m,by rw [h2],by omega,Kd.F_mono h1 (fun _ hk=>.inl hk)⟩
end
def nat_Of.f (a0:Int):Option (List Int):=(nat_cut.f (([(a0) % 4294967296,(a0 / 4294967296) % 4294967296]:List Int))).bind fun t108=>(some t108)
set_option maxHeartbeats 8000000 in
set_option maxRecDepth 100000 in
theorem nat_Of.calls (a0:Int) (r:List Int) (w:World) (h:nat_Of.f a0=some r) :
  Calls Try.prog 100 #[.int .u64 a0] w fun e w'=>∃v0_:Value,e=.returned (v0_)/\Kd.V (Kd.int .u32) 89 w' w.heap.size (fun k_=>(w.heap.size<=k_)) v0_ r/\Below w.heap.size w w':=by
 have HB:=Zz.mk (Below.refl w.heap.size w)
 have H:((nat_cut.f (([(a0) % 4294967296,(a0 / 4294967296) % 4294967296]:List Int))).bind fun t108=>(some t108))=some r:=h
 clear h
 obtain ⟨y105,hy105⟩:∃y_:List Int,y_=(([(a0) % 4294967296,(a0 / 4294967296) % 4294967296]:List Int)):=⟨_,rfl⟩
 replace H:((nat_cut.f y105).bind fun t108=>(some t108))=some r:=by first|(rw [hy105];with_reducible exact H)|(have H2_:=(Option.bind_some _ _).symm.trans H;rw [hy105];with_reducible exact H2_)|(have H2_:=(Option.bind_some _ _).symm.trans H;with_reducible exact H2_)|with_reducible exact H|(rw [hy105];exact H)|exact H
 have Ny105:=Zz.mk hy105
 clear hy105
 replace H:=Option.bind_eq_some_iff.mp H
 obtain ⟨t108,A20,H⟩:=H
 replace H:(some t108)=some r:=H
 have A2:=Zz.mk A20
 clear A20
 obtain rfl:=Option.some.inj H
 go_enter Try.func100,Try.ntmps100
 go_wp2_with (first|((with_reducible refine Zt (N:=8) rfl ?_);refine Kd.R_lit (Kd.int .u32) _ 89 ?hg (N:=8) ?hd (xs:=([(a0) % 4294967296,(a0 / 4294967296) % 4294967296]:List Int)) (inner:=[.int .u32 ((a0) % 4294967296),.int .u32 ((a0 / 4294967296) % 4294967296)]) (ok:=fun _=>True) (okp:=fun _=>True) ?hr ?hp (fun _ hk=>hk) trivial (Below.refl _ _) (Nat.le_refl _) (by simp) ?_;(case hd=>rfl);(case hg=>rfl);(case hr=>first|(go_simp;done)|(go_simp;rfl));(case hp=>exact (Reps.one (show Kd.M (Kd.int .u32) _ _ _ ((a0) % 4294967296) [.int .u32 ((a0) % 4294967296)] from rfl) (Reps.one (show Kd.M (Kd.int .u32) _ _ _ ((a0 / 4294967296) % 4294967296) [.int .u32 ((a0 / 4294967296) % 4294967296)] from rfl) (Reps.none _ _))));intro v106 w3 ho4 hb hg_ hnew_;clear hg_ hnew_;(first|rw [<-Ny105.out] at ho4|(simp only [Int.reduceToNat] at ho4;rw [<-Ny105.out] at ho4));have n0_:=Zz.mk (Kd.R_lower (Kd.R_newM (M:=fun k_=>(w.heap.size<=k_)) ho4 (Zf (by repeat (first|(with_reducible first|exact HB.out|apply Zb|apply Za|apply Zc)|exact HB.out))) (fun k_ h_=>h_)) (Zf (by repeat (first|(with_reducible first|exact HB.out|apply Zb|apply Za|apply Zc)|exact HB.out))));have n1_:=Zz.mk (Zi (by repeat (first|(with_reducible first|exact HB.out|apply Zb|apply Za|apply Zc)|exact HB.out)) hb);clear HB;have HO107:=n0_;have HB:=n1_;clear n0_ n1_;clear hb ho4;obtain ⟨Ao5,co5,eo5⟩:=Kd.R_slice HO107.out;subst eo5)|((with_reducible refine Zs (f:=119) rfl ?_);refine Zv (some 9) rfl rfl Try.func119 (by kernel_rfl) rfl #[.slice Ao5 y105.length co5] rfl (by (try simp only [List.map_toArray,List.map_cons,List.map_nil]);first|done|rfl|(simp only [List.length_drop,List.length_take];rfl)) ?_;(with_reducible refine (nat_cut.calls (fun k_=>some k_=(.slice Ao5 y105.length co5:Value).ownBlock) _ _ y105 t108 _ ?side1 A2.out).mono ?_);(case side1=>exact Kd.R_V (Kd.R_tight rfl (HO107.out)));rintro e w6 ⟨v109,rfl,ho0,hb⟩;refine ⟨_,rfl,?_⟩;have n0_:=Zz.mk (Kd.R_below (by (with_reducible repeat (first|apply Kd.R_alloc|apply Kd.R_drewN|apply Kd.R_drew));exact HO107.out) hb);have n1_:=Zz.mk (Kd.V_lower (Kd.V_mono (ok':=fun k_=>(w.heap.size<=k_)) ho0 (fun k_ hk_=>Or.elim hk_ (fun hs_=>((HO107.out).1 k_ hs_.symm).1) (fun hn_=>(Nat.le_trans (Zf (by repeat (first|(with_reducible first|exact HB.out|apply Zb|apply Za|apply Zc)|exact HB.out))) hn_)))) (Zf (by repeat (first|(with_reducible first|exact HB.out|apply Zb|apply Za|apply Zc)|exact HB.out))));have n2_:=Zz.mk (Zi (by repeat (first|(with_reducible first|exact HB.out|apply Zb|apply Za|apply Zc)|exact HB.out)) hb);clear HO107;clear HB;have HO107:=n0_;have HO110:=n1_;have HB:=n2_;clear n0_ n1_ n2_;(try clear hb);(try clear hb2);(try clear hk);(try clear hi);(try clear ho0)))
 go_ret
 exact ⟨_,by first|rfl|(simp [Zm,Zl]<;>rfl)|(simp [*,Zm,Zl]<;>rfl),by (with_reducible repeat (first|apply Kd.V_alloc|apply Kd.V_drewN|apply Kd.V_drew));exact HO110.out,by repeat (first|(with_reducible first|exact HB.out|apply Zb|apply Za|apply Zc)|exact HB.out)⟩
def nat_at.f (l0:List Int) (a1:Int):Option (Int):=if a1<(l0.length:Int) then (if 0<=a1 then (some (IntKind.u64.wrap (rd l0 a1))) else (none)) else (some 0)
set_option maxHeartbeats 8000000 in
set_option maxRecDepth 100000 in
theorem nat_at.calls (A0:Option Addr) (c0:Nat) (l0:List Int) (a1:Int) (r:Int) (w:World) (hr0:Kd.C (Kd.int .u32) w A0 l0.length l0) (hc0:l0.length<=c0) (h:nat_at.f l0 a1=some r) :
  Calls Try.prog 124 #[.slice A0 l0.length c0,.int .i64 a1] w fun e w'=>e=.returned (.int .u64 r)/\Drawn0 w w':=by
 have HR0:=Zz.mk hr0
 have HC0:=Zz.mk hc0
 clear hr0 hc0
 have H:(if a1<(l0.length:Int) then (if 0<=a1 then (some (IntKind.u64.wrap (rd l0 a1))) else (none)) else (some 0))=some r:=h
 clear h
 by_cases c3:a1<(l0.length:Int)
 ·rw [if_pos c3] at H
  have c3b0:decide (a1<(l0.length:Int))=true:=decide_eq_true c3
  clear c3
  by_cases c4:0<=a1
  ·rw [if_pos c4] at H
   have c4b0:decide (0<=a1)=true:=decide_eq_true c4
   clear c4
   obtain rfl:=Option.some.inj H
   have p121:0<=(a1:Int):=of_decide_eq_true (by first|(with_reducible assumption)|assumption)
   have q121:a1<(l0.length:Int):=of_decide_eq_true (by first|(with_reducible assumption)|assumption)
   obtain ⟨ad121,e121,hx121_0⟩:=Kd.at_int HR0.out a1 p121 q121
   cases e121
   replace p121:=eq_true p121
   replace q121:=eq_true q121
   go_enter Try.func124,Try.ntmps124
   go_wp2
   go_ret
   exact ⟨by first|rfl|(simp;done)|(simp [*];done),by repeat (first|exact Drawn0.refl _|apply Drawn0.step)⟩
  ·rw [if_neg c4] at H
   exact absurd H (by simp)
 ·rw [if_neg c3] at H
  have c3b0:decide (a1<(l0.length:Int))=false:=decide_eq_false c3
  clear c3
  obtain rfl:=Option.some.inj H
  go_enter Try.func124,Try.ntmps124
  go_wp2
  go_ret
  exact ⟨by first|rfl|(simp;done)|(simp [*];done),by repeat (first|exact Drawn0.refl _|apply Drawn0.step)⟩
theorem nat_info:(Try.prog.info? 89).map (fun i=>(i.zero,i.size,i.bytes))=some (some (.int .u32 0),1,4):=by kernel_rfl
def nat_Add.f (l0 l1:List Int):Option (List Int):=if MNat.isN l0/\MNat.isN l1 then some (MNat.limbs (MNat.nval l0+MNat.nval l1)) else none
section
open MNat MWords
set_option maxHeartbeats 400000 in
theorem put_any (i b off len cap gc go_ carry:Nat) (n:Int) (w:World) (x:Value) (hi:i<len) (hlen:len<=9223372036854775807) (hn0:0<=n) (hn:n+carry<18446744073709551616)
  (hc:w.cell? ⟨gc,0,none⟩=some (.int .u64 carry)) (ho:w.cell? ⟨go_,0,none⟩=some (.slice (some ⟨b,off,none⟩) len cap)) (hb:w.cell? ⟨b,off+i,none⟩=some x)
  (hfc:w.frozen? ⟨gc,0,none⟩=false) (hfb:w.frozen? ⟨b,off+i,none⟩=false) (hne:¬ b=gc) :
  Calls Try.prog 129 #[.int .i64 i,.int .u64 n,.pointer (some ⟨gc,0,none⟩),.pointer (some ⟨go_,0,none⟩)] w fun e w'=>e=.returned (.tuple #[])/\w'=(w.setCell ⟨b,off+i,none⟩ (.int .u32 ((n+(carry:Int)) % 4294967296))).setCell ⟨gc,0,none⟩ (.int .u64 ((n+(carry:Int)) / 4294967296)):=by
 go_enter Try.func129,Try.ntmps129
 go_wp2
 go_end0
 exact ⟨rfl,rfl⟩
set_option maxHeartbeats 400000 in
theorem carrier_any (A:Option Addr) (n c:Nat) (w:World) :
  Calls Try.prog 125 #[.slice A n c] w fun e w'=>e=.returned (.func (.func 129) #[] #[.pointer (some ⟨w.heap.size+1,0,none⟩),.pointer (some ⟨w.heap.size,0,none⟩)]) ∧
   w'=(w.alloc (.cells #[.slice A n c] 26)).alloc (.cells #[.int .u64 0] 30):=by
 go_enter Try.func125,Try.ntmps125
 go_wp2
 go_ret
 exact ⟨rfl,rfl⟩
theorem at_eq (l:List Int) (k:Nat) (h:Lim l):nat_at.f l (k:Int)=some (((l.getD k 0).toNat:Nat):Int):=by
 have hb:=lim_getD h k
 unfold nat_at.f
 by_cases hk:k<l.length
 ·rw [if_pos (by omega),if_pos (by omega)]
  have e:rd l (k:Int)=l.getD k 0:=by simp [rd]
  rw [e]
  congr 1
  simp only [IntKind.wrap_u64]
  omega
 ·rw [if_neg (by omega)]
  have e:l.getD k 0=0:=by simp [List.getD,List.getElem?_eq_none (Nat.le_of_not_lt hk)]
  rw [e];rfl
def AddInv (l0 l1:List Int) (M b:Nat) (w:World) (k:Nat) (wr:World):Prop :=
 ∃ (out:List Int) (carry:Nat),out.length=k/\Lim out/\carry<=1/\nval out+carry*4294967296 ^ k=nval (l0.take k)+nval (l1.take k) ∧
  MBlk wr b 89 (nums .u32 (out++List.replicate (M+1-k) 0)).toArray/\MBlk wr (b+1) 26 #[.slice (some ⟨b,0,none⟩) (M+1) (M+1)]/\MBlk wr (b+2) 30 #[.int .u64 carry]/\Below w.heap.size w wr
theorem AddInv.start {l0 l1:List Int} {M:Nat} (w:World) :
  AddInv l0 l1 M w.heap.size w 0 (((w.alloc (.cells (madeCells #[.int .u32 0] (M+1)) 89)).alloc (.cells #[.slice (some ⟨w.heap.size,0,none⟩) (M+1) (M+1)] 26)).alloc (.cells #[.int .u64 0] 30)):=by
 refine ⟨[],0,rfl,lim_nil,by omega,by simp [nval],?_,?_,?_,?_⟩
 ·have h:=Zp (Zp (Zo w 89 (madeCells #[.int .u32 0] (M+1))) (.cells #[.slice (some ⟨w.heap.size,0,none⟩) (M+1) (M+1)] 26)) (.cells #[.int .u64 0] 30)
  have e:madeCells #[Value.int .u32 0] (M+1)=(nums .u32 ([]++List.replicate (M+1-0) 0)).toArray:=by
   apply Array.ext
   ·simp [nums,size_madeCells]
   ·intro i h1 h2
    simp [nums,madeCells,Nat.mod_one]
  rw [<-e];exact h
 ·exact Zp (by simpa using Zo (w.alloc (.cells (madeCells #[.int .u32 0] (M+1)) 89)) 26 #[.slice (some ⟨w.heap.size,0,none⟩) (M+1) (M+1)]) _
 ·simpa using Zo ((w.alloc (.cells (madeCells #[.int .u32 0] (M+1)) 89)).alloc (.cells #[.slice (some ⟨w.heap.size,0,none⟩) (M+1) (M+1)] 26)) 30 #[.int .u64 0]
 ·exact ((((Below.refl _ _).alloc (Nat.le_refl _) _).alloc (by simp) _).alloc (by simp;omega) _)
theorem AddInv.drewN {l0 l1:List Int} {M b k:Nat} {w wr:World} (h:AddInv l0 l1 M b w k wr) (n:Nat):AddInv l0 l1 M b w k (wr.drewN n):=by
 obtain ⟨out,carry,h1,h2,h3,h4,h5,h6,h7,h8⟩:=h
 exact ⟨out,carry,h1,h2,h3,h4,h5,h6,h7,Za h8 n⟩
theorem AddInv.step {l0 l1:List Int} {M b k:Nat} {w wr:World} (h:AddInv l0 l1 M b w k wr) (hk:k<M+1) (hL0:Lim l0) (hL1:Lim l1) (hb:w.heap.size<=b) :
  ∃ (carry:Nat) (x:Value),carry<=1/\wr.cell? ⟨b+2,0,none⟩=some (.int .u64 carry)/\wr.cell? ⟨b+1,0,none⟩=some (.slice (some ⟨b,0,none⟩) (M+1) (M+1))/\wr.cell? ⟨b,0+k,none⟩=some x ∧
   wr.frozen? ⟨b+2,0,none⟩=false/\wr.frozen? ⟨b,0+k,none⟩=false ∧
   AddInv l0 l1 M b w (k+1) ((wr.setCell ⟨b,0+k,none⟩ (.int .u32 ((((l0.getD k 0).toNat:Int)+((l1.getD k 0).toNat:Int)+(carry:Int)) % 4294967296))).setCell ⟨b+2,0,none⟩ (.int .u64 ((((l0.getD k 0).toNat:Int)+((l1.getD k 0).toNat:Int)+(carry:Int)) / 4294967296))):=by
 obtain ⟨out,carry,h1,h2,h3,h4,h5,h6,h7,h8⟩:=h
 have hx:=lim_getD hL0 k
 have hy:=lim_getD hL1 k
 generalize hX:(l0.getD k 0).toNat=X at *
 generalize hY:(l1.getD k 0).toNat=Y at *
 have hX':X<4294967296:=by omega
 have hY':Y<4294967296:=by omega
 have hlen:(nums .u32 (out++List.replicate (M+1-k) 0)).toArray.size=M+1:=by simp [nums,h1];omega
 refine ⟨carry,_,h3,by rw [Zg h7];rfl,by rw [Zg h6];rfl,by rw [Zg h5];exact Array.getElem?_eq_getElem (by omega),Zq h7 _,Zq h5 _,?_⟩
 have e0:(X:Int)+(Y:Int)+(carry:Int)=((X+Y+carry:Nat):Int):=by omega
 rw [e0]
 have e1:(((X+Y+carry:Nat):Int) % 4294967296)=(((X+Y+carry) % 4294967296:Nat):Int):=by omega
 have e2:(((X+Y+carry:Nat):Int) / 4294967296)=(((X+Y+carry) / 4294967296:Nat):Int):=by omega
 rw [e1,e2]
 generalize hS:X+Y+carry=S at *
 refine ⟨out++[((S % 4294967296:Nat):Int)],S / 4294967296,by simp [h1],lim_append.2 ⟨h2,lim_cons.2 ⟨by omega,lim_nil⟩⟩,by omega,?_,?_,?_,?_,?_⟩
 ·rw [nval_snoc,h1,Int.toNat_natCast]
  have t0:nval (l0.take (k+1))=nval (l0.take k)+4294967296 ^ k*X:=by
   by_cases hkl:k<l0.length
   ·rw [take_succ_rd _ _ hkl,nval_snoc,hX,List.length_take,Nat.min_eq_left (by omega)]
   ·have:X=0:=by rw [<-hX];simp [List.getD,List.getElem?_eq_none (Nat.le_of_not_lt hkl)]
    rw [this,List.take_of_length_le (by omega),List.take_of_length_le (by omega)];simp
  have t1:nval (l1.take (k+1))=nval (l1.take k)+4294967296 ^ k*Y:=by
   by_cases hkl:k<l1.length
   ·rw [take_succ_rd _ _ hkl,nval_snoc,hY,List.length_take,Nat.min_eq_left (by omega)]
   ·have:Y=0:=by rw [<-hY];simp [List.getD,List.getElem?_eq_none (Nat.le_of_not_lt hkl)]
    rw [this,List.take_of_length_le (by omega),List.take_of_length_le (by omega)];simp
  rw [t0,t1,Nat.pow_succ]
  have hdm:=Nat.div_add_mod S 4294967296
  generalize 4294967296 ^ k=Bk at *
  generalize hq:S / 4294967296=q at *
  generalize hr:S % 4294967296=r at *
  have:Bk*S=Bk*X+Bk*Y+Bk*carry:=by rw [<-hS];simp [Nat.mul_add]
  have h6:Bk*S=q*(Bk*4294967296)+Bk*r:=by
   rw [<-hdm,Nat.mul_add,Nat.mul_comm q (Bk*4294967296),Nat.mul_assoc]
  have h9:carry*Bk=Bk*carry:=Nat.mul_comm _ _
  omega
 ·have h:=mblk_far (mblk_set h5 (0+k) (.int .u32 ((S % 4294967296:Nat):Int))) (p:=⟨b+2,0,none⟩) (by simp) (.int .u64 ((S / 4294967296:Nat):Int))
  have e:((nums .u32 (out++List.replicate (M+1-k) 0)).toArray.setIfInBounds (0+k) (.int .u32 ((S % 4294967296:Nat):Int)))=(nums .u32 ((out++[((S % 4294967296:Nat):Int)])++List.replicate (M+1-(k+1)) 0)).toArray:=by
   rw [show M+1-k=(M+1-(k+1))+1 by omega,List.replicate_succ]
   simp [nums,<-h1]
  rw [<-e];exact h
 ·exact mblk_far (mblk_far h6 (p:=⟨b,0+k,none⟩) (by simp) _) (p:=⟨b+2,0,none⟩) (by simp) _
 ·have h:=mblk_set (mblk_far h7 (p:=⟨b,0+k,none⟩) (by simp) (.int .u32 ((S % 4294967296:Nat):Int))) 0 (.int .u64 ((S / 4294967296:Nat):Int))
  simpa using h
 ·exact (h8.setCell (by simpa using hb) _).setCell (by simp;omega) _
attribute [local go_sem] max_two min_two
set_option maxHeartbeats 400000 in
theorem add_any (A0:Option Addr) (c0:Nat) (l0:List Int) (A1:Option Addr) (c1:Nat) (l1:List Int) (w:World) (hr0:Kd.C (Kd.int .u32) w A0 l0.length l0) (hc0:l0.length<=c0) (hr1:Kd.C (Kd.int .u32) w A1 l1.length l1) (hc1:l1.length<=c1)
  (hN0:isN l0) (hN1:isN l1) :
  Calls Try.prog 118 #[.slice A0 l0.length c0,.slice A1 l1.length c1] w fun e w'=>∃v0_:Value,e=.returned (v0_)/\Kd.V (Kd.int .u32) 89 w' w.heap.size (fun k_=>(w.heap.size<=k_)) v0_ (limbs (nval l0+nval l1))/\Below w.heap.size w w':=by
 have b0:=hN0.2
 have b1:=hN1.2
 have HN0:=Zz.mk hN0
 have HN1:=Zz.mk hN1
 have HR0:=Zz.mk hr0
 have HR1:=Zz.mk hr1
 clear hN0 hN1 hr0 hr1
 obtain ⟨M,hmax,hM0,hM1,hM⟩:∃M:Nat,Builtin.max2 (.int .i64 (l0.length:Int)) (.int .i64 (l1.length:Int))=pure (.int .i64 (M:Int))/\l0.length<=M/\l1.length<=M/\M<=1000000:=by
  by_cases h:l0.length<l1.length
  ·exact ⟨l1.length,by rw [max2_int,if_pos (by omega)],by omega,by omega,by omega⟩
  ·exact ⟨l0.length,by rw [max2_int,if_neg (by omega)],by omega,by omega,by omega⟩
 have hmk:∀W:World,(Instr.makeSlice 26 (.int .i64 ((M:Int)+1)) (.int .i64 ((M:Int)+1))).run Try.prog W=.ok (.slice (some ⟨W.heap.size,0,none⟩) (M+1) (M+1)) (W.alloc (.cells (madeCells #[.int .u32 0] (M+1)) 89)):=print_make (P:=Try.prog) 26 89 .u32 4 Try.underlying26 nat_info (by omega) (M+1) (by omega)
 go_enter Try.func118,Try.ntmps118
 go_wp2_with fail
 clear hmk hmax
 refine (carrier_any _ _ _ _).mono ?_
 rintro e w1 ⟨rfl,rfl⟩
 go_wp2_with fail
 go_loopw [19] (fun v wr=>∃k:Nat,k<=M+1/\v=.int .i64 k/\Zz (AddInv l0 l1 M w.heap.size w k wr)) (fun v _=>M+1-(intOf v).toNat)
 case atStart =>
  exact ⟨0,by omega,rfl,⟨AddInv.start w⟩⟩
 case round =>
  obtain ⟨k,hk,rfl,hI⟩:=hrel
  by_cases hlt:k<M+1
  ·have hL0:=HN0.out.lim
   have hL1:=HN1.out.lim
   have hbw:Below w.heap.size w wr:=by obtain ⟨_,_,_,_,_,_,_,_,_,h8⟩:=hI.out;exact h8
   have x0:=at_eq l0 k hL0
   have x1:=at_eq l1 k hL1
   have y0:=lim_getD hL0 k
   have y1:=lim_getD hL1 k
   obtain ⟨X,hX⟩:∃X:Nat,(l0.getD k 0).toNat=X:=⟨_,rfl⟩
   obtain ⟨Y,hY⟩:∃X:Nat,(l1.getD k 0).toNat=X:=⟨_,rfl⟩
   rw [hX] at x0
   rw [hY] at x1
   have hX':X<4294967296:=by omega
   have hY':Y<4294967296:=by omega
   have HX:=Zz.mk hX
   have HY:=Zz.mk hY
   clear hL0 hL1 y0 y1 hX hY
   have X0:=Zz.mk x0
   have X1:=Zz.mk x1
   have HBW:=Zz.mk hbw
   clear x0 x1 hbw
   go_wp2_with fail
   refine (nat_at.calls A0 c0 l0 (k:Int) _ wr (Kd.C_below HR0.out HBW.out) hc0 X0.out).mono ?_
   rintro e w1 ⟨rfl,hd⟩
   obtain ⟨n1,rfl⟩:=hd.out
   clear hd
   go_wp2_with fail
   refine (nat_at.calls A1 c1 l1 (k:Int) _ _ (Kd.C_below HR1.out (Za HBW.out _)) hc1 X1.out).mono ?_
   rintro e w1 ⟨rfl,hd⟩
   obtain ⟨n2,rfl⟩:=hd.out
   clear hd
   go_wp2_with fail
   obtain ⟨carry,x,hca,g1,g2,g3,g4,g5,g6⟩:=(hI.out.drewN (n1+n2)).step hlt HN0.out.lim HN1.out.lim (Nat.le_refl _)
   rw [HX.out,HY.out,Nat.zero_add] at g6
   have G6:=Zz.mk g6
   clear g6
   refine (put_any k w.heap.size 0 (M+1) (M+1) (w.heap.size+1+1) (w.heap.size+1) carry ((X:Int)+(Y:Int)) (wr.drewN (n1+n2)) x (by omega) (by omega) (by omega) (by omega) g1 g2 g3 g4 g5 (by omega)).mono ?_
   rintro e w1 ⟨rfl,rfl⟩
   clear g1 g2 g3 g4 g5 hca
   go_wp2_with fail
   go_roundw
   case rel=>exact ⟨k+1,by omega,by go_num,G6⟩
   case measure=>simp [intOf];omega
  ·obtain rfl:k=M+1:=by omega
   obtain ⟨out,carry,h1,h2,h3,h4,h5,h6,h7,h8⟩:=hI.out
   have b0':=nval_lt HN0.out.lim
   have b1':=nval_lt HN1.out.lim
   rw [List.take_of_length_le (by omega),List.take_of_length_le (by omega)] at h4
   have hp:∀j,j<=M->4294967296 ^ j<=4294967296 ^ M:=fun j hj=>Nat.pow_le_pow_right (by omega) hj
   have hp0:=hp _ hM0
   have hp1:=hp _ hM1
   have hs:nval l0+nval l1<4294967296 ^ (M+1):=by rw [Nat.pow_succ];omega
   have hc:carry=0:=by
    rcases Nat.eq_zero_or_pos carry with h|h
    ·exact h
    ·have:1*4294967296 ^ (M+1)<=carry*4294967296 ^ (M+1):=Nat.mul_le_mul_right _ h
     omega
   subst hc
   have hv:nval out=nval l0+nval l1:=by omega
   have ht:trim out=limbs (nval l0+nval l1):=by rw [trim_eq h2,hv]
   simp only [Nat.sub_self,List.replicate_zero,List.append_nil] at h5
   have hRd:ReadsInt wr .u32 (some ⟨w.heap.size,0,none⟩) (M+1) out:=by have:=mblk_reads h5 (by omega);rwa [h1] at this
   have H5:=Zz.mk h5
   have HT:=Zz.mk ht
   have H8:=Zz.mk h8
   have H1:=Zz.mk h1
   have HRd:=Zz.mk hRd
   clear h1 h2 h3 h4 h5 h6 h7 h8 hI b0' b1' hp hp0 hp1 hs hv ht hRd
   go_wp2_with fail
   refine (cut_any _ _ _ out wr HRd.out (by omega)).mono ?_
   rintro e w1 ⟨m,rfl,hm,hml,rfl⟩
   have HM:=Zz.mk hm
   clear hm
   go_wp2_with fail
   go_ret
   exact ⟨_,rfl,by rw [<-HT.out,HM.out];exact mblk_V H5.out (by have:=H1.out;omega) (Nat.le_refl _) (by have:=H1.out;omega),H8.out⟩
theorem nat_Add.calls (A0:Option Addr) (c0:Nat) (l0:List Int) (A1:Option Addr) (c1:Nat) (l1:List Int) (r:List Int) (w:World) (hr0:Kd.C (Kd.int .u32) w A0 l0.length l0) (hc0:l0.length<=c0) (hr1:Kd.C (Kd.int .u32) w A1 l1.length l1) (hc1:l1.length<=c1) (h:nat_Add.f l0 l1=some r) :
  Calls Try.prog 118 #[.slice A0 l0.length c0,.slice A1 l1.length c1] w fun e w'=>∃v0_:Value,e=.returned (v0_)/\Kd.V (Kd.int .u32) 89 w' w.heap.size (fun k_=>(w.heap.size<=k_)) v0_ r/\Below w.heap.size w w':=by
 unfold nat_Add.f at h
 split at h
 ·rename_i hh
  obtain rfl:=Option.some.inj h
  exact add_any A0 c0 l0 A1 c1 l1 w hr0 hc0 hr1 hc1 hh.1 hh.2
 ·cases h
end
def nat_Mul.f (l0 l1:List Int):Option (List Int):=if MNat.isN l0/\MNat.isN l1 then some (MNat.limbs (MNat.nval l0*MNat.nval l1)) else none
section
open MNat MWords
def MulOut (l0 l1:List Int) (b:Nat) (w:World) (i:Nat) (wr:World):Prop :=
 ∃ (out:List Int),out.length=l0.length+l1.length+1/\Lim out/\nval out=nval (l0.take i)*nval l1/\MBlk wr b 89 (nums .u32 out).toArray/\Below w.heap.size w wr
def MulIn (l1 old:List Int) (X N b i H1:Nat) (w:World) (k:Nat) (wr:World):Prop :=
 ∃ (mid:List Int) (carry:Nat),mid.length=k/\Lim mid/\carry<4294967296/\nval mid+carry*4294967296 ^ k=nval ((old.drop i).take k)+X*nval (l1.take k) ∧
  MBlk wr b 89 (nums .u32 (old.take i++(mid++old.drop (i+k)))).toArray/\MBlk wr H1 26 #[.slice (some ⟨b,i,none⟩) (N-i) (N-i)]/\MBlk wr (H1+1) 30 #[.int .u64 carry]/\Below w.heap.size w wr
theorem MulIn.step {l1 old:List Int} {X N b i H1 k:Nat} {w wr:World} (h:MulIn l1 old X N b i H1 w k wr) (hk:k<N-i) (hX:X<4294967296) (hL:Lim old) (hl:old.length=N) (hL1:Lim l1) (hb:w.heap.size<=b) (hbH:b<H1) (hN:N<=3000000) :
  ∃ (carry o:Nat),carry<4294967296/\o<4294967296/\wr.cell? ⟨H1+1,0,none⟩=some (.int .u64 carry)/\wr.cell? ⟨H1,0,none⟩=some (.slice (some ⟨b,i,none⟩) (N-i) (N-i))/\wr.cell? ⟨b,i+k,none⟩=some (.int .u32 o) ∧
   wr.frozen? ⟨H1+1,0,none⟩=false/\wr.frozen? ⟨b,i+k,none⟩=false ∧
   ∀m:Nat,MulIn l1 old X N b i H1 w (k+1) (((wr.drewN m).setCell ⟨b,i+k,none⟩ (.int .u32 (((X:Int)*((l1.getD k 0).toNat:Int)+(o:Int)+(carry:Int)) % 4294967296))).setCell ⟨H1+1,0,none⟩ (.int .u64 (((X:Int)*((l1.getD k 0).toNat:Int)+(o:Int)+(carry:Int)) / 4294967296))):=by
 obtain ⟨mid,carry,h1,h2,h3,h4,h5,h6,h7,h8⟩:=h
 have hy:=lim_getD hL1 k
 have ho:=lim_getD hL (i+k)
 obtain ⟨Y,hY⟩:∃Y:Nat,(l1.getD k 0).toNat=Y:=⟨_,rfl⟩
 obtain ⟨o,hO⟩:∃o:Nat,(old.getD (i+k) 0).toNat=o:=⟨_,rfl⟩
 rw [hY]
 have hY':Y<4294967296:=by omega
 have hO':o<4294967296:=by omega
 have hod:old.drop (i+k)=(o:Int)::old.drop (i+k+1):=by
  rw [List.drop_eq_getElem_cons (by omega)]
  have:old[i+k]'(by omega)=old.getD (i+k) 0:=by simp [List.getD,List.getElem?_eq_getElem (show i+k<old.length by omega)]
  rw [this];congr 1;omega
 have hlen:(old.take i).length=i:=by rw [List.length_take];omega
 have hcs:(nums .u32 (old.take i++(mid++old.drop (i+k)))).toArray[i+k]? = some (.int .u32 (o:Int)):=by
  have hx:(nums .u32 (old.take i++mid)).length=i+k:=by simp [nums,h1];omega
  have hy:nums .u32 (old.take i++(mid++(o:Int)::old.drop (i+k+1)))=nums .u32 (old.take i++mid)++(.int .u32 (o:Int)::nums .u32 (old.drop (i+k+1))):=by simp [nums]
  rw [hod,hy,List.getElem?_toArray,List.getElem?_append_right (by omega),hx,Nat.sub_self]
  rfl
 refine ⟨carry,o,h3,hO',by rw [Zg h7];rfl,by rw [Zg h6];rfl,by rw [Zg h5];exact hcs,Zq h7 _,Zq h5 _,fun m=>?_⟩
 have hprod:X*Y<=4294967295*4294967295:=Nat.mul_le_mul (by omega) (by omega)
 have e0:(X:Int)*(Y:Int)+(o:Int)+(carry:Int)=((X*Y+o+carry:Nat):Int):=by simp
 rw [e0]
 obtain ⟨S,hS⟩:∃S:Nat,X*Y+o+carry=S:=⟨_,rfl⟩
 rw [hS]
 have hS':S<4294967296*4294967296:=by omega
 have e1:((S:Int) % 4294967296)=((S % 4294967296:Nat):Int):=by omega
 have e2:((S:Int) / 4294967296)=((S / 4294967296:Nat):Int):=by omega
 rw [e1,e2]
 refine ⟨mid++[((S % 4294967296:Nat):Int)],S / 4294967296,by simp [h1],lim_append.2 ⟨h2,lim_cons.2 ⟨by omega,lim_nil⟩⟩,by omega,?_,?_,?_,?_,?_⟩
 ·rw [nval_snoc,h1,Int.toNat_natCast]
  have t0:nval ((old.drop i).take (k+1))=nval ((old.drop i).take k)+4294967296 ^ k*o:=by
   rw [take_succ_rd _ _ (by simp;omega),nval_snoc,List.length_take,Nat.min_eq_left (by simp;omega)]
   congr 3
   rw [<-hO];congr 1
   simp [List.getD,List.getElem?_drop]
  have t1:nval (l1.take (k+1))=nval (l1.take k)+4294967296 ^ k*Y:=by
   by_cases hkl:k<l1.length
   ·rw [take_succ_rd _ _ hkl,nval_snoc,hY,List.length_take,Nat.min_eq_left (by omega)]
   ·have:Y=0:=by rw [<-hY];simp [List.getD,List.getElem?_eq_none (Nat.le_of_not_lt hkl)]
    rw [this,List.take_of_length_le (by omega),List.take_of_length_le (by omega)];simp
  rw [t0,t1,Nat.pow_succ]
  have hdm:=Nat.div_add_mod S 4294967296
  generalize 4294967296 ^ k=Bk at *
  generalize hq:S / 4294967296=q at *
  generalize hr:S % 4294967296=r at *
  have a1:Bk*S=Bk*(X*Y)+Bk*o+Bk*carry:=by rw [<-hS];simp [Nat.mul_add]
  have a2:Bk*S=q*(Bk*4294967296)+Bk*r:=by
   rw [<-hdm,Nat.mul_add,Nat.mul_comm q (Bk*4294967296),Nat.mul_assoc]
  have a3:carry*Bk=Bk*carry:=Nat.mul_comm _ _
  have a4:X*(nval (l1.take k)+Bk*Y)=X*nval (l1.take k)+Bk*(X*Y):=by
   rw [Nat.mul_add,Nat.mul_left_comm]
  omega
 ·have h:=mblk_far (mblk_set (mblk_drewN h5 m) (i+k) (.int .u32 ((S % 4294967296:Nat):Int))) (p:=⟨H1+1,0,none⟩) (by simp;omega) (.int .u64 ((S / 4294967296:Nat):Int))
  have e:((nums .u32 (old.take i++(mid++old.drop (i+k)))).toArray.setIfInBounds (i+k) (.int .u32 ((S % 4294967296:Nat):Int)))=(nums .u32 (old.take i++((mid++[((S % 4294967296:Nat):Int)])++old.drop (i+(k+1))))).toArray:=by
   rw [hod,show i+(k+1)=i+k+1 by omega]
   have hx:(nums .u32 (old.take i++mid)).length=i+k:=by simp [nums,h1];omega
   have hy:nums .u32 (old.take i++(mid++(o:Int)::old.drop (i+k+1)))=nums .u32 (old.take i++mid)++(.int .u32 (o:Int)::nums .u32 (old.drop (i+k+1))):=by simp [nums]
   have hz:nums .u32 (old.take i++((mid++[((S % 4294967296:Nat):Int)])++old.drop (i+k+1)))=nums .u32 (old.take i++mid)++(.int .u32 ((S % 4294967296:Nat):Int)::nums .u32 (old.drop (i+k+1))):=by simp [nums]
   rw [hy,hz,List.setIfInBounds_toArray,List.set_append_right _ _ (by omega),hx,Nat.sub_self]
   rfl
  rw [<-e];exact h
 ·exact mblk_far (mblk_far (mblk_drewN h6 m) (p:=⟨b,i+k,none⟩) (by simp;omega) _) (p:=⟨H1+1,0,none⟩) (by simp) _
 ·have h:=mblk_set (mblk_far (mblk_drewN h7 m) (p:=⟨b,i+k,none⟩) (by simp;omega) (.int .u32 ((S % 4294967296:Nat):Int))) 0 (.int .u64 ((S / 4294967296:Nat):Int))
  simpa using h
 ·exact ((Za h8 m).setCell (by simpa using hb) _).setCell (by simp;omega) _
theorem MulIn.done {l0 l1 old:List Int} {X i H1:Nat} {w wr:World} (h:MulIn l1 old X (l0.length+l1.length+1) w.heap.size i H1 w (l0.length+l1.length+1-i) wr) (hl:old.length=l0.length+l1.length+1) (hL:Lim old) (hv:nval old=nval (l0.take i)*nval l1)
  (hX:(l0.getD i 0).toNat=X) (hX':X<4294967296) (hL0:Lim l0) (hL1:Lim l1) (hi:i<l0.length):MulOut l0 l1 w.heap.size w (i+1) wr:=by
 obtain ⟨mid,carry,h1,h2,h3,h4,h5,h6,h7,h8⟩:=h
 rw [show i+(l0.length+l1.length+1-i)=old.length by omega,List.drop_of_length_le (Nat.le_refl _),List.append_nil] at h5
 rw [List.take_of_length_le (by simp;omega),List.take_of_length_le (by omega)] at h4
 have e0:nval old=nval (old.take i)+4294967296 ^ i*nval (old.drop i):=by
  have:=nval_append (old.take i) (old.drop i)
  rw [List.take_append_drop,List.length_take,Nat.min_eq_left (by omega)] at this
  exact this
 have e1:nval (l0.take (i+1))=nval (l0.take i)+4294967296 ^ i*X:=by
  rw [take_succ_rd _ _ hi,nval_snoc,hX,List.length_take,Nat.min_eq_left (by omega)]
 have e2:nval (old.take i++mid)+4294967296 ^ i*(carry*4294967296 ^ (l0.length+l1.length+1-i))=nval (l0.take (i+1))*nval l1:=by
  have h4':=congrArg (4294967296 ^ i * ·) h4
  simp only [Nat.mul_add] at h4'
  rw [nval_append,List.length_take,Nat.min_eq_left (by omega),e1,Nat.add_mul,<-hv,e0,Nat.mul_assoc (4294967296 ^ i) X _]
  omega
 have hb:nval (l0.take (i+1))*nval l1<4294967296 ^ (l0.length+l1.length+1):=by
  have b0:=nval_lt (lim_take hL0 (i+1))
  have b1:=nval_lt hL1
  rw [List.length_take,Nat.min_eq_left (by omega)] at b0
  calc nval (l0.take (i+1))*nval l1<=4294967296 ^ (i+1)*4294967296 ^ l1.length:=Nat.mul_le_mul (by omega) (by omega)
   _=4294967296 ^ (i+1+l1.length):=(Nat.pow_add _ _ _).symm
   _<4294967296 ^ (l0.length+l1.length+1):=Nat.pow_lt_pow_right (by omega) (by omega)
 have hc:carry=0:=by
  rcases Nat.eq_zero_or_pos carry with h|h
  ·exact h
  ·have e3:4294967296 ^ i*(carry*4294967296 ^ (l0.length+l1.length+1-i))=carry*4294967296 ^ (l0.length+l1.length+1):=by
    rw [Nat.mul_comm,Nat.mul_assoc,<-Nat.pow_add,show l0.length+l1.length+1-i+i=l0.length+l1.length+1 by omega]
   have:1*4294967296 ^ (l0.length+l1.length+1)<=carry*4294967296 ^ (l0.length+l1.length+1):=Nat.mul_le_mul_right _ h
   omega
 subst hc
 refine ⟨old.take i++mid,by simp [h1];omega,lim_append.2 ⟨lim_take hL _,h2⟩,by simpa using e2,h5,h8⟩
set_option maxHeartbeats 400000 in
theorem mul_any (A0:Option Addr) (c0:Nat) (l0:List Int) (A1:Option Addr) (c1:Nat) (l1:List Int) (w:World) (hr0:Kd.C (Kd.int .u32) w A0 l0.length l0) (hc0:l0.length<=c0) (hr1:Kd.C (Kd.int .u32) w A1 l1.length l1) (hc1:l1.length<=c1)
  (hN0:isN l0) (hN1:isN l1) :
  Calls Try.prog 108 #[.slice A0 l0.length c0,.slice A1 l1.length c1] w fun e w'=>∃v0_:Value,e=.returned (v0_)/\Kd.V (Kd.int .u32) 89 w' w.heap.size (fun k_=>(w.heap.size<=k_)) v0_ (limbs (nval l0*nval l1))/\Below w.heap.size w w':=by
 have b0:=hN0.2
 have b1:=hN1.2
 have HN0:=Zz.mk hN0
 have HN1:=Zz.mk hN1
 have HR0:=Zz.mk hr0
 have HR1:=Zz.mk hr1
 clear hN0 hN1 hr0 hr1
 have hmk:∀W:World,(Instr.makeSlice 26 (.int .i64 ((l0.length:Int)+(l1.length:Int)+1)) (.int .i64 ((l0.length:Int)+(l1.length:Int)+1))).run Try.prog W=.ok (.slice (some ⟨W.heap.size,0,none⟩) (l0.length+l1.length+1) (l0.length+l1.length+1)) (W.alloc (.cells (madeCells #[.int .u32 0] (l0.length+l1.length+1)) 89)):=print_make (P:=Try.prog) 26 89 .u32 4 Try.underlying26 nat_info (by omega) (l0.length+l1.length+1) (by omega)
 go_enter Try.func108,Try.ntmps108
 go_wp2_with fail
 clear hmk
 go_loopw [19] (fun v wr=>∃i:Nat,i<=l0.length/\v=.int .i64 i/\Zz (MulOut l0 l1 w.heap.size w i wr)) (fun v _=>l0.length-(intOf v).toNat)
 case atStart =>
  refine ⟨0,by omega,rfl,⟨List.replicate (l0.length+l1.length+1) 0,by simp,lim_zeros _,by simp [nval_zeros,nval],?_,(Below.refl _ _).alloc (Nat.le_refl _) _⟩⟩
  rw [<-made_nums]
  exact Zo w 89 (madeCells #[.int .u32 0] (l0.length+l1.length+1))
 case round =>
  obtain ⟨i,hi,rfl,hI⟩:=hrel
  by_cases hlt:i<l0.length
  ·have hbw:Below w.heap.size w wr:=by obtain ⟨_,_,_,_,_,h8⟩:=hI.out;exact h8
   obtain ⟨ad,rfl,hcell⟩:=Kd.at_int (Kd.C_below HR0.out hbw) (i:Int) (by omega) (by omega)
   have hx:=lim_getD HN0.out.lim i
   have e:rd l0 (i:Int)=((l0.getD i 0).toNat:Nat):=by simp only [rd,Int.toNat_natCast];omega
   rw [e,Int.toNat_natCast] at hcell
   obtain ⟨X,hX⟩:∃X:Nat,(l0.getD i 0).toNat=X:=⟨_,rfl⟩
   rw [hX] at hcell
   have hX':X<4294967296:=by omega
   have HX:=Zz.mk hX
   have HBW:=Zz.mk hbw
   clear hx e hX hbw
   go_wp2_with fail
   refine (carrier_any _ _ _ _).mono ?_
   rintro e w1 ⟨rfl,rfl⟩
   obtain ⟨wo,rfl⟩:∃wo:World,wo=wr:=⟨_,rfl⟩
   obtain ⟨old,o1,o2,o3,o4,o5⟩:=hI.out
   have hstart:MulIn l1 old X (l0.length+l1.length+1) w.heap.size i wo.heap.size w 0 ((wo.alloc (.cells #[.slice (some ⟨w.heap.size,i,none⟩) (l0.length+l1.length+1-i) (l0.length+l1.length+1-i)] 26)).alloc (.cells #[.int .u64 0] 30)):=by
    refine ⟨[],0,rfl,lim_nil,by omega,by simp [nval],?_,?_,?_,?_⟩
    ·have h:=Zp (Zp o4 (.cells #[.slice (some ⟨w.heap.size,i,none⟩) (l0.length+l1.length+1-i) (l0.length+l1.length+1-i)] 26)) (.cells #[.int .u64 0] 30)
     simpa [List.take_append_drop] using h
    ·exact Zp (Zo wo 26 _) _
    ·simpa using Zo (wo.alloc (.cells #[.slice (some ⟨w.heap.size,i,none⟩) (l0.length+l1.length+1-i) (l0.length+l1.length+1-i)] 26)) 30 #[.int .u64 0]
    ·exact (o5.alloc o5.size _).alloc (by have:=o5.size;simp;omega) _
   have HST:=Zz.mk hstart
   have O2:=Zz.mk o2
   have O3:=Zz.mk o3
   have O1:=Zz.mk o1
   have O5:=Zz.mk o5
   have hbH:=Zn o4
   clear o1 o2 o3 o4 o5 hstart
   go_wp2_with fail
   go_loopw [32] (fun v wk=>∃k:Nat,k<=l0.length+l1.length+1-i/\v=.int .i64 k/\Zz (MulIn l1 old X (l0.length+l1.length+1) w.heap.size i wo.heap.size w k wk)) (fun v _=>l0.length+l1.length+1-i-(intOf v).toNat)
   case atStart =>
    exact ⟨0,by omega,rfl,HST⟩
   case round =>
    obtain ⟨k,hk,rfl,hJ⟩:=hrel
    by_cases hkt:k<l0.length+l1.length+1-i
    ·have hbk:Below w.heap.size w wr:=by obtain ⟨_,_,_,_,_,_,_,_,_,h8⟩:=hJ.out;exact h8
     have HBK:=Zz.mk hbk
     obtain ⟨carry,o,hca,ho,g1,g2,g3,g4,g5,g6⟩:=hJ.out.step hkt hX' O2.out O1.out HN1.out.lim (Nat.le_refl _) hbH (by omega)
     have x1:=at_eq l1 k HN1.out.lim
     have y1:=lim_getD HN1.out.lim k
     obtain ⟨Y,hY⟩:∃X:Nat,(l1.getD k 0).toNat=X:=⟨_,rfl⟩
     rw [hY] at x1 g6
     have hY':Y<4294967296:=by omega
     have X1:=Zz.mk x1
     have G1:=Zz.mk g1
     have G2:=Zz.mk g2
     have G4:=Zz.mk g4
     have G5:=Zz.mk g5
     have G6:=Zz.mk g6
     have G3:=Zz.mk g3
     have hXY:(X:Int)*(Y:Int)<=18446744065119617025:=by
      have h1:X*Y<=4294967295*4294967295:=Nat.mul_le_mul (by omega) (by omega)
      have h2:((X*Y:Nat):Int)<=((4294967295*4294967295:Nat):Int):=Int.ofNat_le.2 h1
      simpa using h2
     have hXY0:(0:Int)<=(X:Int)*(Y:Int):=Int.mul_nonneg (by omega) (by omega)
     have ik1:(0:Int)<=(i:Int)+(k:Int):=by omega
     have ik2:(i:Int)+(k:Int)<(l0.length:Int)+(l1.length:Int)+1:=by omega
     clear y1 hbk x1 hY g1 g2 g4 g5 g6 hJ hI
     go_wp2_with fail
     have ikw:IntKind.i64.wrap ((i:Int)+(k:Int))=(i:Int)+(k:Int):=IntWalk.i64_in _ (by omega)
     have ikn:((i:Int)+(k:Int)).toNat=i+k:=by omega
     have wX:IntKind.u64.wrap (X:Int)=(X:Int):=by rw [IntKind.wrap_u64];omega
     have wo':IntKind.u64.wrap (o:Int)=(o:Int):=by rw [IntKind.wrap_u64];omega
     have wXY:IntKind.u64.wrap ((X:Int)*(Y:Int))=(X:Int)*(Y:Int):=by rw [IntKind.wrap_u64];omega
     have wS:IntKind.u64.wrap ((X:Int)*(Y:Int)+(o:Int))=(X:Int)*(Y:Int)+(o:Int):=by rw [IntKind.wrap_u64];omega
     have hput:=fun n:Nat=>put_any k w.heap.size i (l0.length+l1.length+1-i) (l0.length+l1.length+1-i) (wo.heap.size+1) wo.heap.size carry ((X:Int)*(Y:Int)+(o:Int)) (wr.drewN n) (.int .u32 (o:Int)) (by omega) (by omega) (by omega) (by omega) G1.out G2.out G3.out G4.out G5.out (by omega)
     have HP:=Zz.mk hput
     clear hput
     go_region_with (first|(go_at_call 124;(with_reducible refine (nat_at.calls A1 c1 l1 (k:Int) _ _ (Kd.C_below HR1.out (by repeat (first|exact HBK.out|apply Za|apply Zr)) ) hc1 X1.out).mono ?_);rintro e w1 ⟨rfl,hd⟩;obtain ⟨n1,rfl⟩:=hd.out;clear hd)|(go_at_call 129;(with_reducible refine (HP.out _).mono ?_);rintro e w1 ⟨rfl,rfl⟩))
     all_goals
      clear ikw ikn wX wo' wXY wS
      go_wp2_with fail
      go_roundw
      case rel=>exact ⟨k+1,by omega,by go_num,⟨G6.out _⟩⟩
      case measure=>simp [intOf];omega
    ·obtain rfl:k=l0.length+l1.length+1-i:=by omega
     have hout:MulOut l0 l1 w.heap.size w (i+1) wr:=MulIn.done hJ.out O1.out O2.out O3.out HX.out hX' HN0.out.lim HN1.out.lim hlt
     have HO:=Zz.mk hout
     clear hout
     go_wp2_with fail
     go_roundw
     case rel=>exact ⟨i+1,by omega,by go_num,HO⟩
     case measure=>simp [intOf];omega
  ·obtain rfl:i=l0.length:=by omega
   obtain ⟨out,h1,h2,h3,h4,h5⟩:=hI.out
   rw [List.take_of_length_le (Nat.le_refl _)] at h3
   have ht:trim out=limbs (nval l0*nval l1):=by rw [trim_eq h2,h3]
   have hRd:ReadsInt wr .u32 (some ⟨w.heap.size,0,none⟩) (l0.length+l1.length+1) out:=by have:=mblk_reads h4 (by omega);rwa [h1] at this
   have H4:=Zz.mk h4
   have HT:=Zz.mk ht
   have H5:=Zz.mk h5
   have H1:=Zz.mk h1
   have HRd:=Zz.mk hRd
   clear h1 h2 h3 h4 h5 hI ht hRd
   go_wp2_with fail
   refine (cut_any _ _ _ out wr HRd.out (by omega)).mono ?_
   rintro e w1 ⟨m,rfl,hm,hml,rfl⟩
   have HM:=Zz.mk hm
   clear hm
   go_wp2_with fail
   go_ret
   exact ⟨_,rfl,by rw [<-HT.out,HM.out];exact mblk_V H4.out (by have:=H1.out;omega) (Nat.le_refl _) (by have:=H1.out;omega),H5.out⟩
theorem nat_Mul.calls (A0:Option Addr) (c0:Nat) (l0:List Int) (A1:Option Addr) (c1:Nat) (l1:List Int) (r:List Int) (w:World) (hr0:Kd.C (Kd.int .u32) w A0 l0.length l0) (hc0:l0.length<=c0) (hr1:Kd.C (Kd.int .u32) w A1 l1.length l1) (hc1:l1.length<=c1) (h:nat_Mul.f l0 l1=some r) :
  Calls Try.prog 108 #[.slice A0 l0.length c0,.slice A1 l1.length c1] w fun e w'=>∃v0_:Value,e=.returned (v0_)/\Kd.V (Kd.int .u32) 89 w' w.heap.size (fun k_=>(w.heap.size<=k_)) v0_ r/\Below w.heap.size w w':=by
 unfold nat_Mul.f at h
 split at h
 ·rename_i hh
  obtain rfl:=Option.some.inj h
  exact mul_any A0 c0 l0 A1 c1 l1 w hr0 hc0 hr1 hc1 hh.1 hh.2
 ·cases h
end
end Go.Proofs.Ytfldklimlcnnnaa.PHq
end

section
namespace Go.Proofs.Ytfldklimlcnnnaa.PHq
open Go.RowKit YtfldklimlcnnnaaW.PrintWords YtfldklimlcnnnaaW.PrintLast YtfldklimlcnnnaaW.PrintMore MWords
attribute [local go_sem] max2_int min2_int max_two min_two max_three min_three max_four min_four   -- for this text's walks alone
def cmp_isNaN_int.f (a0:Int):Option (Bool):=some (a0 != a0)
set_option maxHeartbeats 8000000 in
set_option maxRecDepth 100000 in
theorem cmp_isNaN_int.calls (a0:Int) (r:Bool) (w:World) (h:cmp_isNaN_int.f a0=some r) :
  Calls Try.prog 130 #[.int .i64 a0] w fun e w'=>e=.returned (.bool r)/\Drawn0 w w':=by
 have H:(some (a0 != a0))=some r:=h
 clear h
 obtain rfl:=Option.some.inj H
 go_enter Try.func130,Try.ntmps130
 go_wp2
 go_ret
 exact ⟨by first|rfl|(simp;done)|(simp [*];done),by repeat (first|exact Drawn0.refl _|apply Drawn0.step)⟩
def cmp_Compare_int.f (a0:Int) (a1:Int):Option (Int):=(cmp_isNaN_int.f a0).bind fun t111=>((cmp_isNaN_int.f a1).bind fun t112=>(if t111=true then (if t112=true then (some 0) else (some (-1))) else (if t112=true then (some 1) else (if a0<a1 then (some (-1)) else (if a0>a1 then (some 1) else (some 0))))))
set_option maxHeartbeats 8000000 in
set_option maxRecDepth 100000 in
theorem cmp_Compare_int.calls (a0:Int) (a1:Int) (r:Int) (w:World) (h:cmp_Compare_int.f a0 a1=some r) :
  Calls Try.prog 127 #[.int .i64 a0,.int .i64 a1] w fun e w'=>e=.returned (.int .i64 r)/\Drawn0 w w':=by
 have H:((cmp_isNaN_int.f a0).bind fun t111=>((cmp_isNaN_int.f a1).bind fun t112=>(if t111=true then (if t112=true then (some 0) else (some (-1))) else (if t112=true then (some 1) else (if a0<a1 then (some (-1)) else (if a0>a1 then (some 1) else (some 0)))))))=some r:=h
 clear h
 replace H:=Option.bind_eq_some_iff.mp H
 obtain ⟨t111,A30,H⟩:=H
 replace H:((cmp_isNaN_int.f a1).bind fun t112=>(if t111=true then (if t112=true then (some 0) else (some (-1))) else (if t112=true then (some 1) else (if a0<a1 then (some (-1)) else (if a0>a1 then (some 1) else (some 0))))))=some r:=H
 have A3:=Zz.mk A30
 clear A30
 replace H:=Option.bind_eq_some_iff.mp H
 obtain ⟨t112,A40,H⟩:=H
 replace H:(if t111=true then (if t112=true then (some 0) else (some (-1))) else (if t112=true then (some 1) else (if a0<a1 then (some (-1)) else (if a0>a1 then (some 1) else (some 0)))))=some r:=H
 have A4:=Zz.mk A40
 clear A40
 by_cases c5:t111=true
 ·subst c5
  have H1:(if t112=true then (some 0) else (some (-1)))=some r:=by rw [if_pos rfl] at H;exact H
  clear H
  have H:=H1
  clear H1
  by_cases c6:t112=true
  ·subst c6
   have H1:(some 0)=some r:=by rw [if_pos rfl] at H;exact H
   clear H
   have H:=H1
   clear H1
   obtain rfl:=Option.some.inj H
   go_enter Try.func127,Try.ntmps127
   go_wp2_with (first|((with_reducible refine Zs (f:=130) rfl ?_);refine Zv (some 8) rfl rfl Try.func130 (by kernel_rfl) rfl #[.int .i64 a0] rfl (by (try simp only [List.map_toArray,List.map_cons,List.map_nil]);first|done|rfl|(simp only [List.length_drop,List.length_take];rfl)) ?_;(with_reducible refine (cmp_isNaN_int.calls a0 true _ A3.out).mono ?_);rintro e w' ⟨rfl,⟨nd,rfl⟩⟩;refine ⟨_,rfl,?_⟩;(try clear A3))|((with_reducible refine Zs (f:=130) rfl ?_);refine Zv (some 10) rfl rfl Try.func130 (by kernel_rfl) rfl #[.int .i64 a1] rfl (by (try simp only [List.map_toArray,List.map_cons,List.map_nil]);first|done|rfl|(simp only [List.length_drop,List.length_take];rfl)) ?_;(with_reducible refine (cmp_isNaN_int.calls a1 true _ A4.out).mono ?_);rintro e w' ⟨rfl,⟨nd,rfl⟩⟩;refine ⟨_,rfl,?_⟩;(try clear A4)))
   go_ret
   exact ⟨by first|rfl|(simp;done)|(simp [*];done),by repeat (first|exact Drawn0.refl _|apply Drawn0.step)⟩
  ·replace c6:=Bool.eq_false_iff.mpr c6
   subst c6
   have H1:(some (-1))=some r:=by rw [if_neg (show ¬ (false=true) by decide)] at H;exact H
   clear H
   have H:=H1
   clear H1
   obtain rfl:=Option.some.inj H
   go_enter Try.func127,Try.ntmps127
   go_wp2_with (first|((with_reducible refine Zs (f:=130) rfl ?_);refine Zv (some 8) rfl rfl Try.func130 (by kernel_rfl) rfl #[.int .i64 a0] rfl (by (try simp only [List.map_toArray,List.map_cons,List.map_nil]);first|done|rfl|(simp only [List.length_drop,List.length_take];rfl)) ?_;(with_reducible refine (cmp_isNaN_int.calls a0 true _ A3.out).mono ?_);rintro e w' ⟨rfl,⟨nd,rfl⟩⟩;refine ⟨_,rfl,?_⟩;(try clear A3))|((with_reducible refine Zs (f:=130) rfl ?_);refine Zv (some 10) rfl rfl Try.func130 (by kernel_rfl) rfl #[.int .i64 a1] rfl (by (try simp only [List.map_toArray,List.map_cons,List.map_nil]);first|done|rfl|(simp only [List.length_drop,List.length_take];rfl)) ?_;(with_reducible refine (cmp_isNaN_int.calls a1 false _ A4.out).mono ?_);rintro e w' ⟨rfl,⟨nd,rfl⟩⟩;refine ⟨_,rfl,?_⟩;(try clear A4)))
   go_ret
   exact ⟨by first|rfl|(simp;done)|(simp [*];done),by repeat (first|exact Drawn0.refl _|apply Drawn0.step)⟩
 ·replace c5:=Bool.eq_false_iff.mpr c5
  subst c5
  have H1:(if t112=true then (some 1) else (if a0<a1 then (some (-1)) else (if a0>a1 then (some 1) else (some 0))))=some r:=by rw [if_neg (show ¬ (false=true) by decide)] at H;exact H
  clear H
  have H:=H1
  clear H1
  by_cases c7:t112=true
  ·subst c7
   have H1:(some 1)=some r:=by rw [if_pos rfl] at H;exact H
   clear H
   have H:=H1
   clear H1
   obtain rfl:=Option.some.inj H
   go_enter Try.func127,Try.ntmps127
   go_wp2_with (first|((with_reducible refine Zs (f:=130) rfl ?_);refine Zv (some 8) rfl rfl Try.func130 (by kernel_rfl) rfl #[.int .i64 a0] rfl (by (try simp only [List.map_toArray,List.map_cons,List.map_nil]);first|done|rfl|(simp only [List.length_drop,List.length_take];rfl)) ?_;(with_reducible refine (cmp_isNaN_int.calls a0 false _ A3.out).mono ?_);rintro e w' ⟨rfl,⟨nd,rfl⟩⟩;refine ⟨_,rfl,?_⟩;(try clear A3))|((with_reducible refine Zs (f:=130) rfl ?_);refine Zv (some 10) rfl rfl Try.func130 (by kernel_rfl) rfl #[.int .i64 a1] rfl (by (try simp only [List.map_toArray,List.map_cons,List.map_nil]);first|done|rfl|(simp only [List.length_drop,List.length_take];rfl)) ?_;(with_reducible refine (cmp_isNaN_int.calls a1 true _ A4.out).mono ?_);rintro e w' ⟨rfl,⟨nd,rfl⟩⟩;refine ⟨_,rfl,?_⟩;(try clear A4)))
   go_ret
   exact ⟨by first|rfl|(simp;done)|(simp [*];done),by repeat (first|exact Drawn0.refl _|apply Drawn0.step)⟩
  ·replace c7:=Bool.eq_false_iff.mpr c7
   subst c7
   have H1:(if a0<a1 then (some (-1)) else (if a0>a1 then (some 1) else (some 0)))=some r:=by rw [if_neg (show ¬ (false=true) by decide)] at H;exact H
   clear H
   have H:=H1
   clear H1
   by_cases c8:a0<a1
   ·rw [if_pos c8] at H
    have c8b0:decide (a0<a1)=true:=decide_eq_true c8
    clear c8
    obtain rfl:=Option.some.inj H
    go_enter Try.func127,Try.ntmps127
    go_wp2_with (first|((with_reducible refine Zs (f:=130) rfl ?_);refine Zv (some 8) rfl rfl Try.func130 (by kernel_rfl) rfl #[.int .i64 a0] rfl (by (try simp only [List.map_toArray,List.map_cons,List.map_nil]);first|done|rfl|(simp only [List.length_drop,List.length_take];rfl)) ?_;(with_reducible refine (cmp_isNaN_int.calls a0 false _ A3.out).mono ?_);rintro e w' ⟨rfl,⟨nd,rfl⟩⟩;refine ⟨_,rfl,?_⟩;(try clear A3))|((with_reducible refine Zs (f:=130) rfl ?_);refine Zv (some 10) rfl rfl Try.func130 (by kernel_rfl) rfl #[.int .i64 a1] rfl (by (try simp only [List.map_toArray,List.map_cons,List.map_nil]);first|done|rfl|(simp only [List.length_drop,List.length_take];rfl)) ?_;(with_reducible refine (cmp_isNaN_int.calls a1 false _ A4.out).mono ?_);rintro e w' ⟨rfl,⟨nd,rfl⟩⟩;refine ⟨_,rfl,?_⟩;(try clear A4)))
    go_ret
    exact ⟨by first|rfl|(simp;done)|(simp [*];done),by repeat (first|exact Drawn0.refl _|apply Drawn0.step)⟩
   ·rw [if_neg c8] at H
    have c8b0:decide (a0<a1)=false:=decide_eq_false c8
    clear c8
    by_cases c9:a0>a1
    ·rw [if_pos c9] at H
     have c9b0:decide (a1<a0)=true:=decide_eq_true c9
     clear c9
     obtain rfl:=Option.some.inj H
     go_enter Try.func127,Try.ntmps127
     go_wp2_with (first|((with_reducible refine Zs (f:=130) rfl ?_);refine Zv (some 8) rfl rfl Try.func130 (by kernel_rfl) rfl #[.int .i64 a0] rfl (by (try simp only [List.map_toArray,List.map_cons,List.map_nil]);first|done|rfl|(simp only [List.length_drop,List.length_take];rfl)) ?_;(with_reducible refine (cmp_isNaN_int.calls a0 false _ A3.out).mono ?_);rintro e w' ⟨rfl,⟨nd,rfl⟩⟩;refine ⟨_,rfl,?_⟩;(try clear A3))|((with_reducible refine Zs (f:=130) rfl ?_);refine Zv (some 10) rfl rfl Try.func130 (by kernel_rfl) rfl #[.int .i64 a1] rfl (by (try simp only [List.map_toArray,List.map_cons,List.map_nil]);first|done|rfl|(simp only [List.length_drop,List.length_take];rfl)) ?_;(with_reducible refine (cmp_isNaN_int.calls a1 false _ A4.out).mono ?_);rintro e w' ⟨rfl,⟨nd,rfl⟩⟩;refine ⟨_,rfl,?_⟩;(try clear A4)))
     go_ret
     exact ⟨by first|rfl|(simp;done)|(simp [*];done),by repeat (first|exact Drawn0.refl _|apply Drawn0.step)⟩
    ·rw [if_neg c9] at H
     have c9b0:decide (a1<a0)=false:=decide_eq_false c9
     clear c9
     obtain rfl:=Option.some.inj H
     go_enter Try.func127,Try.ntmps127
     go_wp2_with (first|((with_reducible refine Zs (f:=130) rfl ?_);refine Zv (some 8) rfl rfl Try.func130 (by kernel_rfl) rfl #[.int .i64 a0] rfl (by (try simp only [List.map_toArray,List.map_cons,List.map_nil]);first|done|rfl|(simp only [List.length_drop,List.length_take];rfl)) ?_;(with_reducible refine (cmp_isNaN_int.calls a0 false _ A3.out).mono ?_);rintro e w' ⟨rfl,⟨nd,rfl⟩⟩;refine ⟨_,rfl,?_⟩;(try clear A3))|((with_reducible refine Zs (f:=130) rfl ?_);refine Zv (some 10) rfl rfl Try.func130 (by kernel_rfl) rfl #[.int .i64 a1] rfl (by (try simp only [List.map_toArray,List.map_cons,List.map_nil]);first|done|rfl|(simp only [List.length_drop,List.length_take];rfl)) ?_;(with_reducible refine (cmp_isNaN_int.calls a1 false _ A4.out).mono ?_);rintro e w' ⟨rfl,⟨nd,rfl⟩⟩;refine ⟨_,rfl,?_⟩;(try clear A4)))
     go_ret
     exact ⟨by first|rfl|(simp;done)|(simp [*];done),by repeat (first|exact Drawn0.refl _|apply Drawn0.step)⟩
def cmp_isNaN_uint32.f (a0:Int):Option (Bool):=some (a0 != a0)
set_option maxHeartbeats 8000000 in
set_option maxRecDepth 100000 in
theorem cmp_isNaN_uint32.calls (a0:Int) (r:Bool) (w:World) (h:cmp_isNaN_uint32.f a0=some r) :
  Calls Try.prog 131 #[.int .u32 a0] w fun e w'=>e=.returned (.bool r)/\Drawn0 w w':=by
 have H:(some (a0 != a0))=some r:=h
 clear h
 obtain rfl:=Option.some.inj H
 go_enter Try.func131,Try.ntmps131
 go_wp2
 go_ret
 exact ⟨by first|rfl|(simp;done)|(simp [*];done),by repeat (first|exact Drawn0.refl _|apply Drawn0.step)⟩
def cmp_Compare_uint32.f (a0:Int) (a1:Int):Option (Int):=(cmp_isNaN_uint32.f a0).bind fun t113=>((cmp_isNaN_uint32.f a1).bind fun t114=>(if t113=true then (if t114=true then (some 0) else (some (-1))) else (if t114=true then (some 1) else (if a0<a1 then (some (-1)) else (if a0>a1 then (some 1) else (some 0))))))
set_option maxHeartbeats 8000000 in
set_option maxRecDepth 100000 in
theorem cmp_Compare_uint32.calls (a0:Int) (a1:Int) (r:Int) (w:World) (h:cmp_Compare_uint32.f a0 a1=some r) :
  Calls Try.prog 128 #[.int .u32 a0,.int .u32 a1] w fun e w'=>e=.returned (.int .i64 r)/\Drawn0 w w':=by
 have H:((cmp_isNaN_uint32.f a0).bind fun t113=>((cmp_isNaN_uint32.f a1).bind fun t114=>(if t113=true then (if t114=true then (some 0) else (some (-1))) else (if t114=true then (some 1) else (if a0<a1 then (some (-1)) else (if a0>a1 then (some 1) else (some 0)))))))=some r:=h
 clear h
 replace H:=Option.bind_eq_some_iff.mp H
 obtain ⟨t113,A30,H⟩:=H
 replace H:((cmp_isNaN_uint32.f a1).bind fun t114=>(if t113=true then (if t114=true then (some 0) else (some (-1))) else (if t114=true then (some 1) else (if a0<a1 then (some (-1)) else (if a0>a1 then (some 1) else (some 0))))))=some r:=H
 have A3:=Zz.mk A30
 clear A30
 replace H:=Option.bind_eq_some_iff.mp H
 obtain ⟨t114,A40,H⟩:=H
 replace H:(if t113=true then (if t114=true then (some 0) else (some (-1))) else (if t114=true then (some 1) else (if a0<a1 then (some (-1)) else (if a0>a1 then (some 1) else (some 0)))))=some r:=H
 have A4:=Zz.mk A40
 clear A40
 by_cases c5:t113=true
 ·subst c5
  have H1:(if t114=true then (some 0) else (some (-1)))=some r:=by rw [if_pos rfl] at H;exact H
  clear H
  have H:=H1
  clear H1
  by_cases c6:t114=true
  ·subst c6
   have H1:(some 0)=some r:=by rw [if_pos rfl] at H;exact H
   clear H
   have H:=H1
   clear H1
   obtain rfl:=Option.some.inj H
   go_enter Try.func128,Try.ntmps128
   go_wp2_with (first|((with_reducible refine Zs (f:=131) rfl ?_);refine Zv (some 8) rfl rfl Try.func131 (by kernel_rfl) rfl #[.int .u32 a0] rfl (by (try simp only [List.map_toArray,List.map_cons,List.map_nil]);first|done|rfl|(simp only [List.length_drop,List.length_take];rfl)) ?_;(with_reducible refine (cmp_isNaN_uint32.calls a0 true _ A3.out).mono ?_);rintro e w' ⟨rfl,⟨nd,rfl⟩⟩;refine ⟨_,rfl,?_⟩;(try clear A3))|((with_reducible refine Zs (f:=131) rfl ?_);refine Zv (some 10) rfl rfl Try.func131 (by kernel_rfl) rfl #[.int .u32 a1] rfl (by (try simp only [List.map_toArray,List.map_cons,List.map_nil]);first|done|rfl|(simp only [List.length_drop,List.length_take];rfl)) ?_;(with_reducible refine (cmp_isNaN_uint32.calls a1 true _ A4.out).mono ?_);rintro e w' ⟨rfl,⟨nd,rfl⟩⟩;refine ⟨_,rfl,?_⟩;(try clear A4)))
   go_ret
   exact ⟨by first|rfl|(simp;done)|(simp [*];done),by repeat (first|exact Drawn0.refl _|apply Drawn0.step)⟩
  ·replace c6:=Bool.eq_false_iff.mpr c6
   subst c6
   have H1:(some (-1))=some r:=by rw [if_neg (show ¬ (false=true) by decide)] at H;exact H
   clear H
   have H:=H1
   clear H1
   obtain rfl:=Option.some.inj H
   go_enter Try.func128,Try.ntmps128
   go_wp2_with (first|((with_reducible refine Zs (f:=131) rfl ?_);refine Zv (some 8) rfl rfl Try.func131 (by kernel_rfl) rfl #[.int .u32 a0] rfl (by (try simp only [List.map_toArray,List.map_cons,List.map_nil]);first|done|rfl|(simp only [List.length_drop,List.length_take];rfl)) ?_;(with_reducible refine (cmp_isNaN_uint32.calls a0 true _ A3.out).mono ?_);rintro e w' ⟨rfl,⟨nd,rfl⟩⟩;refine ⟨_,rfl,?_⟩;(try clear A3))|((with_reducible refine Zs (f:=131) rfl ?_);refine Zv (some 10) rfl rfl Try.func131 (by kernel_rfl) rfl #[.int .u32 a1] rfl (by (try simp only [List.map_toArray,List.map_cons,List.map_nil]);first|done|rfl|(simp only [List.length_drop,List.length_take];rfl)) ?_;(with_reducible refine (cmp_isNaN_uint32.calls a1 false _ A4.out).mono ?_);rintro e w' ⟨rfl,⟨nd,rfl⟩⟩;refine ⟨_,rfl,?_⟩;(try clear A4)))
   go_ret
   exact ⟨by first|rfl|(simp;done)|(simp [*];done),by repeat (first|exact Drawn0.refl _|apply Drawn0.step)⟩
 ·replace c5:=Bool.eq_false_iff.mpr c5
  subst c5
  have H1:(if t114=true then (some 1) else (if a0<a1 then (some (-1)) else (if a0>a1 then (some 1) else (some 0))))=some r:=by rw [if_neg (show ¬ (false=true) by decide)] at H;exact H
  clear H
  have H:=H1
  clear H1
  by_cases c7:t114=true
  ·subst c7
   have H1:(some 1)=some r:=by rw [if_pos rfl] at H;exact H
   clear H
   have H:=H1
   clear H1
   obtain rfl:=Option.some.inj H
   go_enter Try.func128,Try.ntmps128
   go_wp2_with (first|((with_reducible refine Zs (f:=131) rfl ?_);refine Zv (some 8) rfl rfl Try.func131 (by kernel_rfl) rfl #[.int .u32 a0] rfl (by (try simp only [List.map_toArray,List.map_cons,List.map_nil]);first|done|rfl|(simp only [List.length_drop,List.length_take];rfl)) ?_;(with_reducible refine (cmp_isNaN_uint32.calls a0 false _ A3.out).mono ?_);rintro e w' ⟨rfl,⟨nd,rfl⟩⟩;refine ⟨_,rfl,?_⟩;(try clear A3))|((with_reducible refine Zs (f:=131) rfl ?_);refine Zv (some 10) rfl rfl Try.func131 (by kernel_rfl) rfl #[.int .u32 a1] rfl (by (try simp only [List.map_toArray,List.map_cons,List.map_nil]);first|done|rfl|(simp only [List.length_drop,List.length_take];rfl)) ?_;(with_reducible refine (cmp_isNaN_uint32.calls a1 true _ A4.out).mono ?_);rintro e w' ⟨rfl,⟨nd,rfl⟩⟩;refine ⟨_,rfl,?_⟩;(try clear A4)))
   go_ret
   exact ⟨by first|rfl|(simp;done)|(simp [*];done),by repeat (first|exact Drawn0.refl _|apply Drawn0.step)⟩
  ·replace c7:=Bool.eq_false_iff.mpr c7
   subst c7
   have H1:(if a0<a1 then (some (-1)) else (if a0>a1 then (some 1) else (some 0)))=some r:=by rw [if_neg (show ¬ (false=true) by decide)] at H;exact H
   clear H
   have H:=H1
   clear H1
   by_cases c8:a0<a1
   ·rw [if_pos c8] at H
    have c8b0:decide (a0<a1)=true:=decide_eq_true c8
    clear c8
    obtain rfl:=Option.some.inj H
    go_enter Try.func128,Try.ntmps128
    go_wp2_with (first|((with_reducible refine Zs (f:=131) rfl ?_);refine Zv (some 8) rfl rfl Try.func131 (by kernel_rfl) rfl #[.int .u32 a0] rfl (by (try simp only [List.map_toArray,List.map_cons,List.map_nil]);first|done|rfl|(simp only [List.length_drop,List.length_take];rfl)) ?_;(with_reducible refine (cmp_isNaN_uint32.calls a0 false _ A3.out).mono ?_);rintro e w' ⟨rfl,⟨nd,rfl⟩⟩;refine ⟨_,rfl,?_⟩;(try clear A3))|((with_reducible refine Zs (f:=131) rfl ?_);refine Zv (some 10) rfl rfl Try.func131 (by kernel_rfl) rfl #[.int .u32 a1] rfl (by (try simp only [List.map_toArray,List.map_cons,List.map_nil]);first|done|rfl|(simp only [List.length_drop,List.length_take];rfl)) ?_;(with_reducible refine (cmp_isNaN_uint32.calls a1 false _ A4.out).mono ?_);rintro e w' ⟨rfl,⟨nd,rfl⟩⟩;refine ⟨_,rfl,?_⟩;(try clear A4)))
    go_ret
    exact ⟨by first|rfl|(simp;done)|(simp [*];done),by repeat (first|exact Drawn0.refl _|apply Drawn0.step)⟩
   ·rw [if_neg c8] at H
    have c8b0:decide (a0<a1)=false:=decide_eq_false c8
    clear c8
    by_cases c9:a0>a1
    ·rw [if_pos c9] at H
     have c9b0:decide (a1<a0)=true:=decide_eq_true c9
     clear c9
     obtain rfl:=Option.some.inj H
     go_enter Try.func128,Try.ntmps128
     go_wp2_with (first|((with_reducible refine Zs (f:=131) rfl ?_);refine Zv (some 8) rfl rfl Try.func131 (by kernel_rfl) rfl #[.int .u32 a0] rfl (by (try simp only [List.map_toArray,List.map_cons,List.map_nil]);first|done|rfl|(simp only [List.length_drop,List.length_take];rfl)) ?_;(with_reducible refine (cmp_isNaN_uint32.calls a0 false _ A3.out).mono ?_);rintro e w' ⟨rfl,⟨nd,rfl⟩⟩;refine ⟨_,rfl,?_⟩;(try clear A3))|((with_reducible refine Zs (f:=131) rfl ?_);refine Zv (some 10) rfl rfl Try.func131 (by kernel_rfl) rfl #[.int .u32 a1] rfl (by (try simp only [List.map_toArray,List.map_cons,List.map_nil]);first|done|rfl|(simp only [List.length_drop,List.length_take];rfl)) ?_;(with_reducible refine (cmp_isNaN_uint32.calls a1 false _ A4.out).mono ?_);rintro e w' ⟨rfl,⟨nd,rfl⟩⟩;refine ⟨_,rfl,?_⟩;(try clear A4)))
     go_ret
     exact ⟨by first|rfl|(simp;done)|(simp [*];done),by repeat (first|exact Drawn0.refl _|apply Drawn0.step)⟩
    ·rw [if_neg c9] at H
     have c9b0:decide (a1<a0)=false:=decide_eq_false c9
     clear c9
     obtain rfl:=Option.some.inj H
     go_enter Try.func128,Try.ntmps128
     go_wp2_with (first|((with_reducible refine Zs (f:=131) rfl ?_);refine Zv (some 8) rfl rfl Try.func131 (by kernel_rfl) rfl #[.int .u32 a0] rfl (by (try simp only [List.map_toArray,List.map_cons,List.map_nil]);first|done|rfl|(simp only [List.length_drop,List.length_take];rfl)) ?_;(with_reducible refine (cmp_isNaN_uint32.calls a0 false _ A3.out).mono ?_);rintro e w' ⟨rfl,⟨nd,rfl⟩⟩;refine ⟨_,rfl,?_⟩;(try clear A3))|((with_reducible refine Zs (f:=131) rfl ?_);refine Zv (some 10) rfl rfl Try.func131 (by kernel_rfl) rfl #[.int .u32 a1] rfl (by (try simp only [List.map_toArray,List.map_cons,List.map_nil]);first|done|rfl|(simp only [List.length_drop,List.length_take];rfl)) ?_;(with_reducible refine (cmp_isNaN_uint32.calls a1 false _ A4.out).mono ?_);rintro e w' ⟨rfl,⟨nd,rfl⟩⟩;refine ⟨_,rfl,?_⟩;(try clear A4)))
     go_ret
     exact ⟨by first|rfl|(simp;done)|(simp [*];done),by repeat (first|exact Drawn0.refl _|apply Drawn0.step)⟩
def nat_Cmp.l0:Nat->List Int->List Int->Int->Int->Option (Int)
 | 0,_,_,_,_=>none
 | k+1,x0,x1,x18,x19=>if x19<x18 then (if 0<=(wrap64 ((wrap64 ((x0.length:Int)-1))-x19)) then (if (wrap64 ((wrap64 ((x0.length:Int)-1))-x19))<(x0.length:Int) then (if (wrap64 ((wrap64 ((x0.length:Int)-1))-x19))<(x1.length:Int) then (if (rd x0 (wrap64 ((wrap64 ((x0.length:Int)-1))-x19)))=(rd x1 (wrap64 ((wrap64 ((x0.length:Int)-1))-x19))) then (nat_Cmp.l0 k x0 x1 x18 (wrap64 (x19+1))) else ((cmp_Compare_uint32.f (rd x0 (wrap64 ((wrap64 ((x0.length:Int)-1))-x19))) (rd x1 (wrap64 ((wrap64 ((x0.length:Int)-1))-x19)))).bind fun t120=>(some t120))) else (none)) else (none)) else (none)) else (some 0)
def nat_Cmp.f (k:Nat) (l0:List Int) (l1:List Int):Option (Int):=if (l0.length:Int)=(l1.length:Int) then (nat_Cmp.l0 k l0 l1 (l0.length:Int) 0) else ((cmp_Compare_int.f (l0.length:Int) (l1.length:Int)).bind fun t115=>(some t115))
set_option maxHeartbeats 8000000 in
set_option maxRecDepth 100000 in
theorem nat_Cmp.calls (k:Nat) (A0:Option Addr) (c0:Nat) (l0:List Int) (A1:Option Addr) (c1:Nat) (l1:List Int) (r:Int) (w:World) (hr0:Kd.C (Kd.int .u32) w A0 l0.length l0) (hc0:l0.length<=c0) (hr1:Kd.C (Kd.int .u32) w A1 l1.length l1) (hc1:l1.length<=c1) (h:nat_Cmp.f k l0 l1=some r) :
  Calls Try.prog 117 #[.slice A0 l0.length c0,.slice A1 l1.length c1] w fun e w'=>e=.returned (.int .i64 r)/\Drawn0 w w':=by
 have HR0:=Zz.mk hr0
 have HC0:=Zz.mk hc0
 clear hr0 hc0
 have HR1:=Zz.mk hr1
 have HC1:=Zz.mk hc1
 clear hr1 hc1
 have H:(if (l0.length:Int)=(l1.length:Int) then (nat_Cmp.l0 k l0 l1 (l0.length:Int) 0) else ((cmp_Compare_int.f (l0.length:Int) (l1.length:Int)).bind fun t115=>(some t115)))=some r:=h
 clear h
 by_cases c3:(l0.length:Int)=(l1.length:Int)
 ·rw [if_pos c3] at H
  have c3b0:((l0.length:Int) == (l1.length:Int))=true:=beq_iff_eq.mpr c3
  have c3b1:((l0.length:Int) != (l1.length:Int))=false:=bne_eq_false_iff_eq.mpr c3
  have c3b2:(l0.length == l1.length)=true:=by first|simpa using c3|(simp at c3 ⊢;omega)
  clear c3
  have H':=Zz.mk H
  clear H
  go_enter Try.func117,Try.ntmps117
  go_wp2
  repeat (go_quiet (fail);try go_wp2)
  go_loopg [19] k (fun kq v19 w'=>∃ (x19_1:Int),v19=.int .i64 x19_1/\Zz (nat_Cmp.l0 kq l0 l1 (l0.length:Int) x19_1=some r)/\Zz (kq<=k)/\Drawn0 w w')
  case atStart=>exact ⟨(0),(by first|rfl|(simp;done)|(simp [*];done)),H',⟨Nat.le_refl _⟩,by repeat (first|exact Drawn0.refl _|apply Drawn0.step)⟩
  case round =>
   clear H'
   try clear c1
   try clear p2
   try clear c3
   try clear c3b0
   try clear c3b1
   try clear c3b2
   obtain ⟨x19_1,rfl,HA,HK1,⟨m1,rfl⟩⟩:=hrel
   cases gk with
   | zero=>exact absurd HA.out (by simp [nat_Cmp.l0])
   | succ k1 =>
    have H:=HA.out
    clear HA
    simp only [nat_Cmp.l0] at H
    by_cases c4:x19_1<(l0.length:Int)
    ·rw [if_pos c4] at H
     have c4b0:decide (x19_1<(l0.length:Int))=true:=decide_eq_true c4
     clear c4
     obtain ⟨ji5,hji5⟩:∃j_:Int,(wrap64 ((wrap64 ((l0.length:Int)-1))-x19_1))=j_:=⟨_,rfl⟩
     replace H:(if 0<=(ji5) then (if (ji5)<(l0.length:Int) then (if (ji5)<(l1.length:Int) then (if (rd l0 (ji5))=(rd l1 (ji5)) then (nat_Cmp.l0 k1 l0 l1 (l0.length:Int) (wrap64 (x19_1+1))) else ((cmp_Compare_uint32.f (rd l0 (ji5)) (rd l1 (ji5))).bind fun t120=>(some t120))) else (none)) else (none)) else (none))=some r:=by first|(rw [hji5] at H;exact H)|(simp only [hji5] at H ⊢;exact H)
     have hji5w:(IntKind.i64.wrap ((wrap64 ((l0.length:Int)-1))-x19_1))=ji5:=(Z6 _).trans hji5
     by_cases c6:0<=(ji5)
     ·rw [if_pos c6] at H
      have c6b0:decide (0<=(ji5))=true:=decide_eq_true c6
      clear c6
      by_cases c7:(ji5)<(l0.length:Int)
      ·rw [if_pos c7] at H
       have c7b0:decide ((ji5)<(l0.length:Int))=true:=decide_eq_true c7
       clear c7
       by_cases c8:(ji5)<(l1.length:Int)
       ·rw [if_pos c8] at H
        have c8b0:decide ((ji5)<(l1.length:Int))=true:=decide_eq_true c8
        clear c8
        by_cases c9:(rd l0 (ji5))=(rd l1 (ji5))
        ·rw [if_pos c9] at H
         have c9b0:((rd l0 (ji5)) == (rd l1 (ji5)))=true:=beq_iff_eq.mpr c9
         have c9b1:((rd l0 (ji5)) != (rd l1 (ji5)))=false:=bne_eq_false_iff_eq.mpr c9
         clear c9
         have H':=Zz.mk H
         clear H
         have p116:0<=((ji5):Int):=of_decide_eq_true (by first|(with_reducible assumption)|assumption)
         have q116:(ji5)<(l0.length:Int):=of_decide_eq_true (by first|(with_reducible assumption)|assumption)
         obtain ⟨ad116,e116,hx116_0⟩:=Kd.at_int HR0.out (ji5) p116 q116
         cases e116
         replace p116:=eq_true p116
         replace q116:=eq_true q116
         have p117:0<=((ji5):Int):=of_decide_eq_true (by first|(with_reducible assumption)|assumption)
         have q117:(ji5)<(l1.length:Int):=of_decide_eq_true (by first|(with_reducible assumption)|assumption)
         obtain ⟨ad117,e117,hx117_0⟩:=Kd.at_int HR1.out (ji5) p117 q117
         cases e117
         replace p117:=eq_true p117
         replace q117:=eq_true q117
         go_wp2
         repeat (go_quiet (fail);try go_wp2)
         go_roundg k1
         case measure=>have:=HK1.out;omega
         case rel=>exact ⟨(wrap64 (x19_1+1)),(by first|rfl|(simp;done)|(simp [*];done)),H',⟨by have:=HK1.out;omega⟩,by repeat (first|exact Drawn0.refl _|apply Drawn0.step)⟩
        ·rw [if_neg c9] at H
         have c9b0:((rd l0 (ji5)) == (rd l1 (ji5)))=false:=beq_eq_false_iff_ne.mpr c9
         have c9b1:((rd l0 (ji5)) != (rd l1 (ji5)))=true:=bne_iff_ne.mpr c9
         replace H:=Option.bind_eq_some_iff.mp H
         obtain ⟨t120,A100,H⟩:=H
         replace H:(some t120)=some r:=H
         have A10:=Zz.mk A100
         clear A100
         obtain rfl:=Option.some.inj H
         have p116:0<=((ji5):Int):=of_decide_eq_true (by first|(with_reducible assumption)|assumption)
         have q116:(ji5)<(l0.length:Int):=of_decide_eq_true (by first|(with_reducible assumption)|assumption)
         obtain ⟨ad116,e116,hx116_0⟩:=Kd.at_int HR0.out (ji5) p116 q116
         cases e116
         replace p116:=eq_true p116
         replace q116:=eq_true q116
         have p117:0<=((ji5):Int):=of_decide_eq_true (by first|(with_reducible assumption)|assumption)
         have q117:(ji5)<(l1.length:Int):=of_decide_eq_true (by first|(with_reducible assumption)|assumption)
         obtain ⟨ad117,e117,hx117_0⟩:=Kd.at_int HR1.out (ji5) p117 q117
         cases e117
         replace p117:=eq_true p117
         replace q117:=eq_true q117
         have p118:0<=((ji5):Int):=of_decide_eq_true (by first|(with_reducible assumption)|assumption)
         have q118:(ji5)<(l0.length:Int):=of_decide_eq_true (by first|(with_reducible assumption)|assumption)
         obtain ⟨ad118,e118,hx118_0⟩:=Kd.at_int HR0.out (ji5) p118 q118
         obtain rfl:ad116=ad118:=(by injection e118)
         replace p118:=eq_true p118
         replace q118:=eq_true q118
         have p119:0<=((ji5):Int):=of_decide_eq_true (by first|(with_reducible assumption)|assumption)
         have q119:(ji5)<(l1.length:Int):=of_decide_eq_true (by first|(with_reducible assumption)|assumption)
         obtain ⟨ad119,e119,hx119_0⟩:=Kd.at_int HR1.out (ji5) p119 q119
         obtain rfl:ad117=ad119:=(by injection e119)
         replace p119:=eq_true p119
         replace q119:=eq_true q119
         go_wp2_with (first|(go_at_call 128;(with_reducible refine (cmp_Compare_uint32.calls (rd l0 (ji5)) (rd l1 (ji5)) t120 _ A10.out).mono ?_);rintro e w' ⟨rfl,⟨nd,rfl⟩⟩;(try first|exact ⟨rfl,_,World.drewN_drewN _ _ _⟩|exact ⟨rfl,_,Eq.trans (World.drewN_drewN _ _ _) (congrArg (World.drewN _) (Nat.add_assoc _ _ _))⟩)))
         repeat (go_quiet (first|(go_at_call 128;(with_reducible refine (cmp_Compare_uint32.calls (rd l0 (ji5)) (rd l1 (ji5)) t120 _ A10.out).mono ?_);rintro e w' ⟨rfl,⟨nd,rfl⟩⟩;(try first|exact ⟨rfl,_,World.drewN_drewN _ _ _⟩|exact ⟨rfl,_,Eq.trans (World.drewN_drewN _ _ _) (congrArg (World.drewN _) (Nat.add_assoc _ _ _))⟩)));try go_wp2_with (first|(go_at_call 128;(with_reducible refine (cmp_Compare_uint32.calls (rd l0 (ji5)) (rd l1 (ji5)) t120 _ A10.out).mono ?_);rintro e w' ⟨rfl,⟨nd,rfl⟩⟩;(try first|exact ⟨rfl,_,World.drewN_drewN _ _ _⟩|exact ⟨rfl,_,Eq.trans (World.drewN_drewN _ _ _) (congrArg (World.drewN _) (Nat.add_assoc _ _ _))⟩))))
         go_ret
         exact ⟨by first|rfl|(simp;done)|(simp only [<-hji5]<;>(first|rfl|simp))|(simp [*];done),by repeat (first|exact Drawn0.refl _|apply Drawn0.step)⟩
       ·rw [if_neg c8] at H
        exact absurd H (by simp)
      ·rw [if_neg c7] at H
       exact absurd H (by simp)
     ·rw [if_neg c6] at H
      exact absurd H (by simp)
    ·rw [if_neg c4] at H
     have c4b0:decide (x19_1<(l0.length:Int))=false:=decide_eq_false c4
     clear c4
     obtain rfl:=Option.some.inj H
     go_wp2
     repeat (go_quiet (fail);try go_wp2)
     go_ret
     exact ⟨by first|rfl|(simp;done)|(simp [*];done),by repeat (first|exact Drawn0.refl _|apply Drawn0.step)⟩
 ·rw [if_neg c3] at H
  have c3b0:((l0.length:Int) == (l1.length:Int))=false:=beq_eq_false_iff_ne.mpr c3
  have c3b1:((l0.length:Int) != (l1.length:Int))=true:=bne_iff_ne.mpr c3
  have c3b2:(l0.length == l1.length)=false:=by first|simpa using c3|(simp at c3 ⊢;omega)
  replace H:=Option.bind_eq_some_iff.mp H
  obtain ⟨t115,A110,H⟩:=H
  replace H:(some t115)=some r:=H
  have A11:=Zz.mk A110
  clear A110
  obtain rfl:=Option.some.inj H
  go_enter Try.func117,Try.ntmps117
  go_wp2_with (first|(go_at_call 127;(with_reducible refine (cmp_Compare_int.calls (l0.length:Int) (l1.length:Int) t115 _ A11.out).mono ?_);rintro e w' ⟨rfl,⟨nd,rfl⟩⟩;(try first|exact ⟨rfl,_,World.drewN_drewN _ _ _⟩|exact ⟨rfl,_,Eq.trans (World.drewN_drewN _ _ _) (congrArg (World.drewN _) (Nat.add_assoc _ _ _))⟩)))
  repeat (go_quiet (first|(go_at_call 127;(with_reducible refine (cmp_Compare_int.calls (l0.length:Int) (l1.length:Int) t115 _ A11.out).mono ?_);rintro e w' ⟨rfl,⟨nd,rfl⟩⟩;(try first|exact ⟨rfl,_,World.drewN_drewN _ _ _⟩|exact ⟨rfl,_,Eq.trans (World.drewN_drewN _ _ _) (congrArg (World.drewN _) (Nat.add_assoc _ _ _))⟩)));try go_wp2_with (first|(go_at_call 127;(with_reducible refine (cmp_Compare_int.calls (l0.length:Int) (l1.length:Int) t115 _ A11.out).mono ?_);rintro e w' ⟨rfl,⟨nd,rfl⟩⟩;(try first|exact ⟨rfl,_,World.drewN_drewN _ _ _⟩|exact ⟨rfl,_,Eq.trans (World.drewN_drewN _ _ _) (congrArg (World.drewN _) (Nat.add_assoc _ _ _))⟩))))
  go_ret
  exact ⟨by first|rfl|(simp;done)|(simp [*];done),by repeat (first|exact Drawn0.refl _|apply Drawn0.step)⟩
def nat_Sub.l0:Nat->List Int->List Int->List Int->Int->Int->Int->Option (List Int × Int)
 | 0,_,_,_,_,_,_=>none
 | k+1,x0,x1,x6,x7,x18,x19=>if x19<x18 then ((nat_at.f x0 x19).bind fun t126=>((nat_at.f x1 x19).bind fun t127=>(if 0<=x19 then (if x19<(x6.length:Int) then (nat_Sub.l0 k x0 x1 (x6.set (x19:Int).toNat ((IntKind.u64.wrap ((IntKind.u64.wrap (t126-t127))-x7)) % 4294967296)) ((IntKind.u64.wrap ((IntKind.u64.wrap (t126-t127))-x7)) / 9223372036854775808) x18 (wrap64 (x19+1))) else (none)) else (none)))) else ((nat_cut.f x6).bind fun t129=>(some (t129,0)))
def nat_Sub.f (k:Nat) (l0:List Int) (l1:List Int):Option (List Int × Int):=(nat_Cmp.f k l0 l1).bind fun t122=>(if t122<0 then (some (([]:List Int),16)) else (if 0<=(l0.length:Int) then (if ((l0.length:Int):Int).toNat<=70368744177664 then (nat_Sub.l0 k l0 l1 (List.replicate ((l0.length:Int):Int).toNat 0) 0 (l0.length:Int) 0) else (none)) else (none)))
set_option maxHeartbeats 8000000 in
set_option maxRecDepth 100000 in
theorem nat_Sub.calls (k:Nat) (A0:Option Addr) (c0:Nat) (l0:List Int) (A1:Option Addr) (c1:Nat) (l1:List Int) (r1:List Int) (r2:Int) (w:World) (hr0:Kd.C (Kd.int .u32) w A0 l0.length l0) (hc0:l0.length<=c0) (hr1:Kd.C (Kd.int .u32) w A1 l1.length l1) (hc1:l1.length<=c1) (h:nat_Sub.f k l0 l1=some (r1,r2)) :
  Calls Try.prog 107 #[.slice A0 l0.length c0,.slice A1 l1.length c1] w fun e w'=>∃v0_:Value,e=.returned (.tuple #[v0_,.int .i64 r2])/\Kd.V (Kd.int .u32) 89 w' w.heap.size (fun k_=>(w.heap.size<=k_)) v0_ r1/\Below w.heap.size w w':=by
 have HR0:=Zz.mk hr0
 have HC0:=Zz.mk hc0
 clear hr0 hc0
 have HR1:=Zz.mk hr1
 have HC1:=Zz.mk hc1
 clear hr1 hc1
 have HB:=Zz.mk (Below.refl w.heap.size w)
 have H:((nat_Cmp.f k l0 l1).bind fun t122=>(if t122<0 then (some (([]:List Int),16)) else (if 0<=(l0.length:Int) then (if ((l0.length:Int):Int).toNat<=70368744177664 then (nat_Sub.l0 k l0 l1 (List.replicate ((l0.length:Int):Int).toNat 0) 0 (l0.length:Int) 0) else (none)) else (none))))=some (r1,r2):=h
 clear h
 replace H:=Option.bind_eq_some_iff.mp H
 obtain ⟨t122,A30,H⟩:=H
 replace H:(if t122<0 then (some (([]:List Int),16)) else (if 0<=(l0.length:Int) then (if ((l0.length:Int):Int).toNat<=70368744177664 then (nat_Sub.l0 k l0 l1 (List.replicate ((l0.length:Int):Int).toNat 0) 0 (l0.length:Int) 0) else (none)) else (none)))=some (r1,r2):=H
 have A3:=Zz.mk A30
 clear A30
 by_cases c4:t122<0
 ·rw [if_pos c4] at H
  have c4b0:decide (t122<0)=true:=decide_eq_true c4
  clear c4
  simp only [Option.some.injEq,Prod.mk.injEq] at H
  obtain ⟨rfl,rfl⟩:=H
  go_enter Try.func107,Try.ntmps107
  go_wp2_with (first|((with_reducible refine Zs (f:=117) rfl ?_);refine Zv (some 12) rfl rfl Try.func117 (by kernel_rfl) rfl #[.slice A0 l0.length c0,.slice A1 l1.length c1] rfl (by (try simp only [List.map_toArray,List.map_cons,List.map_nil]);first|done|rfl|(simp only [List.length_drop,List.length_take];rfl)) ?_;(with_reducible refine (nat_Cmp.calls k _ _ l0 _ _ l1 t122 _ ?side1 ?side2 ?side3 ?side4 A3.out).mono ?_);(case side1=>repeat (first|exact HR0.out|(with_reducible refine Kd.C_alloc ?_ _)|(with_reducible refine Kd.C_drewN ?_ _)|(with_reducible refine Kd.C_drew ?_)));(case side2=>exact HC0.out);(case side3=>repeat (first|exact HR1.out|(with_reducible refine Kd.C_alloc ?_ _)|(with_reducible refine Kd.C_drewN ?_ _)|(with_reducible refine Kd.C_drew ?_)));(case side4=>exact HC1.out);rintro e w' ⟨rfl,⟨nd,rfl⟩⟩;refine ⟨_,rfl,?_⟩))
  go_ret2
  exact ⟨_,by first|rfl|(simp [Zm,Zl]<;>rfl)|(simp [*,Zm,Zl]<;>rfl),Kd.V_nil _ _ _ _ _,by repeat (first|(with_reducible first|exact HB.out|apply Zb|apply Za|apply Zc)|exact HB.out)⟩
 ·rw [if_neg c4] at H
  have c4b0:decide (t122<0)=false:=decide_eq_false c4
  clear c4
  by_cases c5:0<=(l0.length:Int)
  ·rw [if_pos c5] at H
   have c5b0:=eq_true c5
   have c5b1:decide (0<=(l0.length:Int))=true:=decide_eq_true c5
   clear c5
   by_cases c6:((l0.length:Int):Int).toNat<=70368744177664
   ·rw [if_pos c6] at H
    have c6b0:=eq_true c6
    have c6b1:decide (((l0.length:Int):Int).toNat<=70368744177664)=true:=decide_eq_true c6
    clear c6
    obtain ⟨y123,hy123⟩:∃y_:List Int,y_=(List.replicate ((l0.length:Int):Int).toNat 0):=⟨_,rfl⟩
    replace H:(nat_Sub.l0 k l0 l1 y123 0 (l0.length:Int) 0)=some (r1,r2):=by first|(rw [hy123];with_reducible exact H)|(have H2_:=(Option.bind_some _ _).symm.trans H;rw [hy123];with_reducible exact H2_)|(have H2_:=(Option.bind_some _ _).symm.trans H;with_reducible exact H2_)|with_reducible exact H|(rw [hy123];exact H)|exact H
    have Ny123:=Zz.mk hy123
    clear hy123
    have H':=Zz.mk H
    clear H
    go_enter Try.func107,Try.ntmps107
    go_wp2_with (first|((with_reducible refine Zs (f:=117) rfl ?_);refine Zv (some 12) rfl rfl Try.func117 (by kernel_rfl) rfl #[.slice A0 l0.length c0,.slice A1 l1.length c1] rfl (by (try simp only [List.map_toArray,List.map_cons,List.map_nil]);first|done|rfl|(simp only [List.length_drop,List.length_take];rfl)) ?_;(with_reducible refine (nat_Cmp.calls k _ _ l0 _ _ l1 t122 _ ?side1 ?side2 ?side3 ?side4 A3.out).mono ?_);(case side1=>repeat (first|exact HR0.out|(with_reducible refine Kd.C_alloc ?_ _)|(with_reducible refine Kd.C_drewN ?_ _)|(with_reducible refine Kd.C_drew ?_)));(case side2=>exact HC0.out);(case side3=>repeat (first|exact HR1.out|(with_reducible refine Kd.C_alloc ?_ _)|(with_reducible refine Kd.C_drewN ?_ _)|(with_reducible refine Kd.C_drew ?_)));(case side4=>exact HC1.out);rintro e w' ⟨rfl,⟨nd,rfl⟩⟩;refine ⟨_,rfl,?_⟩)|((with_reducible refine Zt (N:=16) rfl ?_);refine Kd.R_make (Kd.int .u32) _ 89 rfl (N:=16) rfl 26 _ _ rfl (l0.length:Int) rfl rfl Try.underlying26 (.int .u32 0) 4 info89 rfl (by decide) (by omega) 0 (ok:=fun _=>True) (okp:=fun _=>True) rfl (fun _ hk=>hk) trivial (of_decide_eq_true (by first|(with_reducible assumption)|assumption)) (Nat.le_trans (Nat.mul_le_mul_right _ (of_decide_eq_true (by first|(with_reducible assumption)|assumption):(l0.length:Int).toNat<=70368744177664)) (by omega)) (Below.refl _ _) (Nat.le_refl _) ?_;intro v124 w7 ho8 hb hg_ hnew_;clear hg_ hnew_;(first|rw [<-Ny123.out] at ho8|(simp only [Int.reduceToNat] at ho8;rw [<-Ny123.out] at ho8));have n0_:=Zz.mk (Kd.R_lower (Kd.R_newM (M:=fun k_=>(w.heap.size<=k_)) ho8 (Zf (by repeat (first|(with_reducible first|exact HB.out|apply Zb|apply Za|apply Zc)|exact HB.out))) (fun k_ h_=>h_)) (Zf (by repeat (first|(with_reducible first|exact HB.out|apply Zb|apply Za|apply Zc)|exact HB.out))));have n1_:=Zz.mk (Zi (by repeat (first|(with_reducible first|exact HB.out|apply Zb|apply Za|apply Zc)|exact HB.out)) hb);clear HB;have HO125:=n0_;have HB:=n1_;clear n0_ n1_;clear hb ho8))
    go_loopg [7,19] k (fun kq v7 v19 w'=>∃ (x6_1:List Int) (x7_1:Int) (x19_1:Int),v7=.int .u64 x7_1/\v19=.int .i64 x19_1/\Zz (nat_Sub.l0 kq l0 l1 x6_1 x7_1 (l0.length:Int) x19_1=some (r1,r2))/\Zz (kq<=k)/\Zz (Kd.R (Kd.int .u32) 89 w' w.heap.size (fun k_=>(w.heap.size<=k_)) v124 x6_1)/\Zz (Below w.heap.size w w'))
    case atStart=>exact ⟨(y123),(0),(0),(by first|rfl|(simp;done)|(simp [*];done)),(by first|rfl|(simp;done)|(simp [*];done)),H',⟨Nat.le_refl _⟩,⟨by (with_reducible repeat (first|apply Kd.R_alloc|apply Kd.R_drewN|apply Kd.R_drew));exact Kd.R_mono HO125.out (fun _ hk=>hk.1)⟩,⟨by repeat (first|(with_reducible first|exact HB.out|apply Zb|apply Za|apply Zc)|exact HB.out)⟩⟩
    case round =>
     clear H'
     try clear c1
     try clear p2
     try clear c4
     try clear c4b0
     try clear c5
     try clear c5b0
     try clear c5b1
     try clear c6
     try clear c6b0
     try clear c6b1
     obtain ⟨x6_1,x7_1,x19_1,rfl,rfl,HA,HK1,HO_6,HB⟩:=hrel
     cases gk with
     | zero=>exact absurd HA.out (by simp [nat_Sub.l0])
     | succ k1 =>
      have H:=HA.out
      clear HA
      simp only [nat_Sub.l0] at H
      by_cases c9:x19_1<(l0.length:Int)
      ·rw [if_pos c9] at H
       have c9b0:decide (x19_1<(l0.length:Int))=true:=decide_eq_true c9
       clear c9
       replace H:=Option.bind_eq_some_iff.mp H
       obtain ⟨t126,A100,H⟩:=H
       replace H:((nat_at.f l1 x19_1).bind fun t127=>(if 0<=x19_1 then (if x19_1<(x6_1.length:Int) then (nat_Sub.l0 k1 l0 l1 (x6_1.set (x19_1:Int).toNat ((IntKind.u64.wrap ((IntKind.u64.wrap (t126-t127))-x7_1)) % 4294967296)) ((IntKind.u64.wrap ((IntKind.u64.wrap (t126-t127))-x7_1)) / 9223372036854775808) (l0.length:Int) (wrap64 (x19_1+1))) else (none)) else (none)))=some (r1,r2):=H
       have A10:=Zz.mk A100
       clear A100
       replace H:=Option.bind_eq_some_iff.mp H
       obtain ⟨t127,A110,H⟩:=H
       replace H:(if 0<=x19_1 then (if x19_1<(x6_1.length:Int) then (nat_Sub.l0 k1 l0 l1 (x6_1.set (x19_1:Int).toNat ((IntKind.u64.wrap ((IntKind.u64.wrap (t126-t127))-x7_1)) % 4294967296)) ((IntKind.u64.wrap ((IntKind.u64.wrap (t126-t127))-x7_1)) / 9223372036854775808) (l0.length:Int) (wrap64 (x19_1+1))) else (none)) else (none))=some (r1,r2):=H
       have A11:=Zz.mk A110
       clear A110
       by_cases c12:0<=x19_1
       ·rw [if_pos c12] at H
        have c12b0:decide (0<=x19_1)=true:=decide_eq_true c12
        clear c12
        by_cases c13:x19_1<(x6_1.length:Int)
        ·rw [if_pos c13] at H
         have c13b0:decide (x19_1<(x6_1.length:Int))=true:=decide_eq_true c13
         clear c13
         obtain ⟨y128,hy128⟩:∃y_:List Int,y_=(x6_1.set (x19_1:Int).toNat ((IntKind.u64.wrap ((IntKind.u64.wrap (t126-t127))-x7_1)) % 4294967296)):=⟨_,rfl⟩
         replace H:(nat_Sub.l0 k1 l0 l1 y128 ((IntKind.u64.wrap ((IntKind.u64.wrap (t126-t127))-x7_1)) / 9223372036854775808) (l0.length:Int) (wrap64 (x19_1+1)))=some (r1,r2):=by first|(rw [hy128];with_reducible exact H)|(have H2_:=(Option.bind_some _ _).symm.trans H;rw [hy128];with_reducible exact H2_)|(have H2_:=(Option.bind_some _ _).symm.trans H;with_reducible exact H2_)|with_reducible exact H|(rw [hy128];exact H)|exact H
         have Ny128:=Zz.mk hy128
         clear hy128
         have H':=Zz.mk H
         clear H
         go_wp2_with (first|((with_reducible refine Zs (f:=124) rfl ?_);refine Zv (some 24) rfl rfl Try.func124 (by kernel_rfl) rfl #[.slice A0 l0.length c0,.int .i64 x19_1] rfl (by (try simp only [List.map_toArray,List.map_cons,List.map_nil]);first|done|rfl|(simp only [List.length_drop,List.length_take];rfl)) ?_;(with_reducible refine (nat_at.calls _ _ l0 x19_1 t126 _ ?side1 ?side2 A10.out).mono ?_);(case side1=>repeat (first|exact (Kd.C_below HR0.out HB.out)|(with_reducible refine Kd.C_alloc ?_ _)|(with_reducible refine Kd.C_drewN ?_ _)|(with_reducible refine Kd.C_drew ?_)));(case side2=>exact HC0.out);rintro e w' ⟨rfl,⟨nd,rfl⟩⟩;refine ⟨_,rfl,?_⟩;(try (rw [drewN_self wr];generalize hq_:World.drewN wr _=wr;have n0_:Zz (Kd.R (Kd.int .u32) 89 wr w.heap.size (fun k_=>(w.heap.size<=k_)) v124 x6_1):=⟨by rw [<-hq_];exact (by (with_reducible repeat (first|apply Kd.R_alloc|apply Kd.R_drewN|apply Kd.R_drew));exact HO_6.out)⟩;have n1_:Zz (Below w.heap.size w wr):=⟨by rw [<-hq_];exact (by repeat (first|(with_reducible first|exact HB.out|apply Zb|apply Za|apply Zc)|exact HB.out))⟩;clear HO_6 HB hq_;have HO_6:=n0_;have HB:=n1_;clear n0_ n1_));(try clear A10))|((with_reducible refine Zs (f:=124) rfl ?_);refine Zv (some 27) rfl rfl Try.func124 (by kernel_rfl) rfl #[.slice A1 l1.length c1,.int .i64 x19_1] rfl (by (try simp only [List.map_toArray,List.map_cons,List.map_nil]);first|done|rfl|(simp only [List.length_drop,List.length_take];rfl)) ?_;(with_reducible refine (nat_at.calls _ _ l1 x19_1 t127 _ ?side1 ?side2 A11.out).mono ?_);(case side1=>repeat (first|exact (Kd.C_below HR1.out HB.out)|(with_reducible refine Kd.C_alloc ?_ _)|(with_reducible refine Kd.C_drewN ?_ _)|(with_reducible refine Kd.C_drew ?_)));(case side2=>exact HC1.out);rintro e w' ⟨rfl,⟨nd,rfl⟩⟩;refine ⟨_,rfl,?_⟩;(try (rw [drewN_self wr];generalize hq_:World.drewN wr _=wr;have n0_:Zz (Kd.R (Kd.int .u32) 89 wr w.heap.size (fun k_=>(w.heap.size<=k_)) v124 x6_1):=⟨by rw [<-hq_];exact (by (with_reducible repeat (first|apply Kd.R_alloc|apply Kd.R_drewN|apply Kd.R_drew));exact HO_6.out)⟩;have n1_:Zz (Below w.heap.size w wr):=⟨by rw [<-hq_];exact (by repeat (first|(with_reducible first|exact HB.out|apply Zb|apply Za|apply Zc)|exact HB.out))⟩;clear HO_6 HB hq_;have HO_6:=n0_;have HB:=n1_;clear n0_ n1_));have p14:0<=(x19_1:Int):=of_decide_eq_true (by first|(with_reducible assumption)|assumption);have q14:(x19_1:Int)<((x6_1.length:Int):Int):=of_decide_eq_true (by first|(with_reducible assumption)|assumption);obtain ⟨go14,co14,eo14,gb14,gl14,cl14,HG14⟩:=Kd.R_form HO_6.out (by omega);(first|cases eo14|(injection eo14 with ea_ en_ ec_;(first|subst ea_|(injection ea_ with ea_;subst ea_));subst ec_;clear en_));have GB14:=Zz.mk gb14;have GG14:=Zz.mk HG14;clear gb14 gl14 HG14;obtain ⟨hx14_0,hf14_0⟩:=Kd.R_celln 0 HO_6.out (x19_1:Int) p14 q14;replace p14:=eq_true p14;replace q14:=eq_true q14;obtain ⟨hy15_,hz15_⟩:=Kd.R_celln 0 HO_6.out (x19_1:Int) (of_decide_eq_true (by first|(with_reducible assumption)|assumption)) (of_decide_eq_true (by first|(with_reducible assumption)|assumption));have HP15:=Kd.R_putg HO_6.out (x19_1:Int) ((IntKind.u64.wrap ((IntKind.u64.wrap (t126-t127))-x7_1)) % 4294967296);(try clear A11))|((with_reducible refine gate_store (t:=89) (p:=35) rfl ?_);refine store_event (t:=89) (p:=35) (v:=?vo_w16) (w1:=(wr.setCell ⟨go14,(x19_1:Int).toNat,none⟩ (.int .u32 ((IntKind.u64.wrap ((IntKind.u64.wrap (t126-t127))-x7_1)) % 4294967296)))) ?hg ?ho ?hn ?hr ?_;(case ho=>rfl);(case hg=>rfl);(case hn=>rfl);(case hr=>first|(go_simp;done)|(go_simp;rfl));intro w16 hw;have hg:wr.grownBy w16 (some go14):=(by rw [hw];exact HP15.2);have hp_:Kd.R (Kd.int .u32) 89 w16 w.heap.size (fun k_=>(w.heap.size<=k_)) (.slice (some ⟨go14,0,none⟩) x6_1.length co14) y128:=(by rw [hw,Ny128.out];exact HP15.1);clear HP15;have n0_:=Zz.mk (hp_);have n1_:=Zz.mk ((by rw [hw];exact Zd (HB.out) GB14.out:Below w.heap.size w w16));clear HO_6;clear HB;have HO_6:=n0_;have HB:=n1_;clear n0_ n1_;clear hg hw hp_))
         go_roundg k1
         case measure=>have:=HK1.out;omega
         case rel=>exact ⟨(y128),((IntKind.u64.wrap ((IntKind.u64.wrap (t126-t127))-x7_1)) / 9223372036854775808),(wrap64 (x19_1+1)),(by first|rfl|(simp;done)|(simp [*];done)),(by first|rfl|(simp;done)|(simp [*];done)),H',⟨by have:=HK1.out;omega⟩,⟨by (with_reducible repeat (first|apply Kd.R_alloc|apply Kd.R_drewN|apply Kd.R_drew));exact HO_6.out⟩,⟨by repeat (first|(with_reducible first|exact HB.out|apply Zb|apply Za|apply Zc)|exact HB.out)⟩⟩
        ·rw [if_neg c13] at H
         exact absurd H (by simp)
       ·rw [if_neg c12] at H
        exact absurd H (by simp)
      ·rw [if_neg c9] at H
       have c9b0:decide (x19_1<(l0.length:Int))=false:=decide_eq_false c9
       clear c9
       replace H:=Option.bind_eq_some_iff.mp H
       obtain ⟨t129,A170,H⟩:=H
       replace H:(some (t129,0))=some (r1,r2):=H
       have A17:=Zz.mk A170
       clear A170
       simp only [Option.some.injEq,Prod.mk.injEq] at H
       obtain ⟨rfl,rfl⟩:=H
       obtain ⟨Ao18,co18,eo18⟩:=Kd.R_slice HO_6.out
       subst eo18
       go_wp2_with (first|((with_reducible refine Zs (f:=119) rfl ?_);refine Zv (some 40) rfl rfl Try.func119 (by kernel_rfl) rfl #[.slice Ao18 x6_1.length co18] rfl (by (try simp only [List.map_toArray,List.map_cons,List.map_nil]);first|done|rfl|(simp only [List.length_drop,List.length_take];rfl)) ?_;(with_reducible refine (nat_cut.calls (fun k_=>some k_=(.slice Ao18 x6_1.length co18:Value).ownBlock) _ _ x6_1 t129 _ ?side1 A17.out).mono ?_);(case side1=>exact Kd.R_V (Kd.R_tight rfl (HO_6.out)));rintro e w19 ⟨v130,rfl,ho0,hb⟩;refine ⟨_,rfl,?_⟩;have n0_:=Zz.mk (Kd.R_below (by (with_reducible repeat (first|apply Kd.R_alloc|apply Kd.R_drewN|apply Kd.R_drew));exact HO_6.out) hb);have n1_:=Zz.mk (Kd.V_lower (Kd.V_mono (ok':=fun k_=>(w.heap.size<=k_)) ho0 (fun k_ hk_=>Or.elim hk_ (fun hs_=>((HO_6.out).1 k_ hs_.symm)) (fun hn_=>(Nat.le_trans (Zf (by repeat (first|(with_reducible first|exact HB.out|apply Zb|apply Za|apply Zc)|exact HB.out))) hn_)))) (Zf (by repeat (first|(with_reducible first|exact HB.out|apply Zb|apply Za|apply Zc)|exact HB.out))));have n2_:=Zz.mk (Zi (by repeat (first|(with_reducible first|exact HB.out|apply Zb|apply Za|apply Zc)|exact HB.out)) hb);clear HO_6;clear HB;have HO_6:=n0_;have HO131:=n1_;have HB:=n2_;clear n0_ n1_ n2_;(try clear hb);(try clear hb2);(try clear hk);(try clear hi);(try clear ho0)))
       go_ret2
       exact ⟨_,by first|rfl|(simp [Zm,Zl]<;>rfl)|(simp [*,Zm,Zl]<;>rfl),by (with_reducible repeat (first|apply Kd.V_alloc|apply Kd.V_drewN|apply Kd.V_drew));exact HO131.out,by repeat (first|(with_reducible first|exact HB.out|apply Zb|apply Za|apply Zc)|exact HB.out)⟩
   ·rw [if_neg c6] at H
    exact absurd H (by simp)
  ·rw [if_neg c5] at H
   exact absurd H (by simp)
end Go.Proofs.Ytfldklimlcnnnaa.PHq
end

section
namespace Go.Proofs.Ytfldklimlcnnnaa.PHq
open Go.RowKit YtfldklimlcnnnaaW.PrintWords YtfldklimlcnnnaaW.PrintLast YtfldklimlcnnnaaW.PrintMore MWords
attribute [local go_sem] max2_int min2_int max_two min_two max_three min_three max_four min_four   -- for this text's walks alone
def ratio_Check.f (l0_0:List Int) (l0_1:List Int):Option (Bool):=(nat_Check.f l0_0).bind fun t103=>(if t103=true then ((nat_Check.f l0_1).bind fun t104=>(if t104=true then (some (decide ((l0_1.length:Int)>0))) else (some false))) else (some false))
set_option maxHeartbeats 8000000 in
set_option maxRecDepth 100000 in
theorem ratio_Check.calls (A0_0:Option Addr) (c0_0:Nat) (l0_0:List Int) (A0_1:Option Addr) (c0_1:Nat) (l0_1:List Int) (r:Bool) (w:World) (hr0_0:Kd.C (Kd.int .u32) w A0_0 l0_0.length l0_0) (hc0_0:l0_0.length<=c0_0) (hr0_1:Kd.C (Kd.int .u32) w A0_1 l0_1.length l0_1) (hc0_1:l0_1.length<=c0_1) (h:ratio_Check.f l0_0 l0_1=some r) :
  Calls Try.prog 62 #[.agg #[.slice A0_0 l0_0.length c0_0,.slice A0_1 l0_1.length c0_1]] w fun e w'=>e=.returned (.bool r)/\Below w.heap.size w w':=by
 have hu28:=Try.underlying28
 have HR0_0:=Zz.mk hr0_0
 have HC0_0:=Zz.mk hc0_0
 clear hr0_0 hc0_0
 have HR0_1:=Zz.mk hr0_1
 have HC0_1:=Zz.mk hc0_1
 clear hr0_1 hc0_1
 have HB:=Zz.mk (Below.refl w.heap.size w)
 have H:((nat_Check.f l0_0).bind fun t103=>(if t103=true then ((nat_Check.f l0_1).bind fun t104=>(if t104=true then (some (decide ((l0_1.length:Int)>0))) else (some false))) else (some false)))=some r:=h
 clear h
 replace H:=Option.bind_eq_some_iff.mp H
 obtain ⟨t103,A20,H⟩:=H
 replace H:(if t103=true then ((nat_Check.f l0_1).bind fun t104=>(if t104=true then (some (decide ((l0_1.length:Int)>0))) else (some false))) else (some false))=some r:=H
 have A2:=Zz.mk A20
 clear A20
 by_cases c3:t103=true
 ·subst c3
  have H1:((nat_Check.f l0_1).bind fun t104=>(if t104=true then (some (decide ((l0_1.length:Int)>0))) else (some false)))=some r:=by rw [if_pos rfl] at H;exact H
  clear H
  have H:=H1
  clear H1
  replace H:=Option.bind_eq_some_iff.mp H
  obtain ⟨t104,A40,H⟩:=H
  replace H:(if t104=true then (some (decide ((l0_1.length:Int)>0))) else (some false))=some r:=H
  have A4:=Zz.mk A40
  clear A40
  by_cases c5:t104=true
  ·subst c5
   have H1:(some (decide ((l0_1.length:Int)>0)))=some r:=by rw [if_pos rfl] at H;exact H
   clear H
   have H:=H1
   clear H1
   obtain rfl:=Option.some.inj H
   go_enter Try.func62,Try.ntmps62
   go_wp2_with (first|((with_reducible refine Zt (N:=1) rfl ?_);(try (refine gate_guard (by rfl) ?_;dsimp only));refine Zu ?hg (N:=1) ?hd (cs:=#[.slice A0_0 l0_0.length c0_0,.slice A0_1 l0_1.length c0_1]) (t:=28) ?hr ?_;(case hd=>rfl);(case hg=>rfl);(case hr=>first|(go_simp;done)|(go_simp;rfl));intro gb102 hg w6 hbox hb;have n0_:=Zz.mk (Zi (by repeat (first|(with_reducible first|exact HB.out|apply Zb|apply Za|apply Zc)|exact HB.out)) hb);have n1_:=Zz.mk (hbox);have n2_:=Zz.mk ((by rw [hg];exact (Zf (by repeat (first|(with_reducible first|exact HB.out|apply Zb|apply Za|apply Zc)|exact HB.out))):w.heap.size<=gb102));have n3_:=Zz.mk ((by rw [hg];exact (Zf (by repeat (first|(with_reducible first|exact HB.out|apply Zb|apply Za|apply Zc)|exact HB.out))):w.heap.size<=gb102));clear HB;have HB:=n0_;have BK102:=n1_;have GW102:=n2_;have GE102:=n3_;clear n0_ n1_ n2_ n3_;clear hb hbox hg;have hcz7_0:w6.cell? ⟨gb102,0,none⟩=some (.slice A0_0 l0_0.length c0_0):=(Zh BK102.out 0).trans rfl;have hcz7_1:w6.cell? ⟨gb102,1,none⟩=some (.slice A0_1 l0_1.length c0_1):=(Zh BK102.out 1).trans rfl;have hfz7_0:=Zj BK102.out 0;have hfz7_1:=Zj BK102.out 1)|((with_reducible refine Zs (f:=97) rfl ?_);refine Zv (some 5) rfl rfl Try.func97 (by kernel_rfl) rfl #[.slice A0_0 l0_0.length c0_0] rfl (by (try simp only [List.map_toArray,List.map_cons,List.map_nil]);first|done|rfl|(simp only [List.length_drop,List.length_take];rfl)) ?_;(with_reducible refine (nat_Check.calls _ _ l0_0 true _ ?side1 ?side2 A2.out).mono ?_);(case side1=>repeat (first|exact (Kd.C_below HR0_0.out HB.out)|(with_reducible refine Kd.C_alloc ?_ _)|(with_reducible refine Kd.C_drewN ?_ _)|(with_reducible refine Kd.C_drew ?_)));(case side2=>exact HC0_0.out);rintro e w' ⟨rfl,⟨nd,rfl⟩⟩;refine ⟨_,rfl,?_⟩;(try clear A2))|(go_at_call 97;(with_reducible refine (nat_Check.calls _ _ l0_1 true _ ?side1 ?side2 A4.out).mono ?_);(case side1=>repeat (first|exact (Kd.C_below HR0_1.out (by repeat (first|(with_reducible first|exact HB.out|apply Zb|apply Za|apply Zc|refine Zd ?_ GE102.out)|exact HB.out)))|(with_reducible refine Kd.C_alloc ?_ _)|(with_reducible refine Kd.C_drewN ?_ _)|(with_reducible refine Kd.C_drew ?_)));(case side2=>exact HC0_1.out);rintro e w' ⟨rfl,⟨nd,rfl⟩⟩;(try clear A4)))
   go_ret
   exact ⟨by first|rfl|(simp [Zm,Zl]<;>rfl)|(simp [*,Zm,Zl]<;>rfl),by repeat (first|(with_reducible first|exact HB.out|apply Zb|apply Za|apply Zc|refine Zd ?_ GE102.out)|exact HB.out)⟩
  ·replace c5:=Bool.eq_false_iff.mpr c5
   subst c5
   have H1:(some false)=some r:=by rw [if_neg (show ¬ (false=true) by decide)] at H;exact H
   clear H
   have H:=H1
   clear H1
   obtain rfl:=Option.some.inj H
   go_enter Try.func62,Try.ntmps62
   go_wp2_with (first|((with_reducible refine Zt (N:=1) rfl ?_);(try (refine gate_guard (by rfl) ?_;dsimp only));refine Zu ?hg (N:=1) ?hd (cs:=#[.slice A0_0 l0_0.length c0_0,.slice A0_1 l0_1.length c0_1]) (t:=28) ?hr ?_;(case hd=>rfl);(case hg=>rfl);(case hr=>first|(go_simp;done)|(go_simp;rfl));intro gb102 hg w8 hbox hb;have n0_:=Zz.mk (Zi (by repeat (first|(with_reducible first|exact HB.out|apply Zb|apply Za|apply Zc)|exact HB.out)) hb);have n1_:=Zz.mk (hbox);have n2_:=Zz.mk ((by rw [hg];exact (Zf (by repeat (first|(with_reducible first|exact HB.out|apply Zb|apply Za|apply Zc)|exact HB.out))):w.heap.size<=gb102));have n3_:=Zz.mk ((by rw [hg];exact (Zf (by repeat (first|(with_reducible first|exact HB.out|apply Zb|apply Za|apply Zc)|exact HB.out))):w.heap.size<=gb102));clear HB;have HB:=n0_;have BK102:=n1_;have GW102:=n2_;have GE102:=n3_;clear n0_ n1_ n2_ n3_;clear hb hbox hg;have hcz9_0:w8.cell? ⟨gb102,0,none⟩=some (.slice A0_0 l0_0.length c0_0):=(Zh BK102.out 0).trans rfl;have hcz9_1:w8.cell? ⟨gb102,1,none⟩=some (.slice A0_1 l0_1.length c0_1):=(Zh BK102.out 1).trans rfl;have hfz9_0:=Zj BK102.out 0;have hfz9_1:=Zj BK102.out 1)|((with_reducible refine Zs (f:=97) rfl ?_);refine Zv (some 5) rfl rfl Try.func97 (by kernel_rfl) rfl #[.slice A0_0 l0_0.length c0_0] rfl (by (try simp only [List.map_toArray,List.map_cons,List.map_nil]);first|done|rfl|(simp only [List.length_drop,List.length_take];rfl)) ?_;(with_reducible refine (nat_Check.calls _ _ l0_0 true _ ?side1 ?side2 A2.out).mono ?_);(case side1=>repeat (first|exact (Kd.C_below HR0_0.out HB.out)|(with_reducible refine Kd.C_alloc ?_ _)|(with_reducible refine Kd.C_drewN ?_ _)|(with_reducible refine Kd.C_drew ?_)));(case side2=>exact HC0_0.out);rintro e w' ⟨rfl,⟨nd,rfl⟩⟩;refine ⟨_,rfl,?_⟩;(try clear A2))|(go_at_call 97;(with_reducible refine (nat_Check.calls _ _ l0_1 false _ ?side1 ?side2 A4.out).mono ?_);(case side1=>repeat (first|exact (Kd.C_below HR0_1.out (by repeat (first|(with_reducible first|exact HB.out|apply Zb|apply Za|apply Zc|refine Zd ?_ GE102.out)|exact HB.out)))|(with_reducible refine Kd.C_alloc ?_ _)|(with_reducible refine Kd.C_drewN ?_ _)|(with_reducible refine Kd.C_drew ?_)));(case side2=>exact HC0_1.out);rintro e w' ⟨rfl,⟨nd,rfl⟩⟩;(try clear A4)))
   go_ret
   exact ⟨by first|rfl|(simp [Zm,Zl]<;>rfl)|(simp [*,Zm,Zl]<;>rfl),by repeat (first|(with_reducible first|exact HB.out|apply Zb|apply Za|apply Zc|refine Zd ?_ GE102.out)|exact HB.out)⟩
 ·replace c3:=Bool.eq_false_iff.mpr c3
  subst c3
  have H1:(some false)=some r:=by rw [if_neg (show ¬ (false=true) by decide)] at H;exact H
  clear H
  have H:=H1
  clear H1
  obtain rfl:=Option.some.inj H
  go_enter Try.func62,Try.ntmps62
  go_wp2_with (first|((with_reducible refine Zt (N:=1) rfl ?_);(try (refine gate_guard (by rfl) ?_;dsimp only));refine Zu ?hg (N:=1) ?hd (cs:=#[.slice A0_0 l0_0.length c0_0,.slice A0_1 l0_1.length c0_1]) (t:=28) ?hr ?_;(case hd=>rfl);(case hg=>rfl);(case hr=>first|(go_simp;done)|(go_simp;rfl));intro gb102 hg w10 hbox hb;have n0_:=Zz.mk (Zi (by repeat (first|(with_reducible first|exact HB.out|apply Zb|apply Za|apply Zc)|exact HB.out)) hb);have n1_:=Zz.mk (hbox);have n2_:=Zz.mk ((by rw [hg];exact (Zf (by repeat (first|(with_reducible first|exact HB.out|apply Zb|apply Za|apply Zc)|exact HB.out))):w.heap.size<=gb102));have n3_:=Zz.mk ((by rw [hg];exact (Zf (by repeat (first|(with_reducible first|exact HB.out|apply Zb|apply Za|apply Zc)|exact HB.out))):w.heap.size<=gb102));clear HB;have HB:=n0_;have BK102:=n1_;have GW102:=n2_;have GE102:=n3_;clear n0_ n1_ n2_ n3_;clear hb hbox hg;have hcz11_0:w10.cell? ⟨gb102,0,none⟩=some (.slice A0_0 l0_0.length c0_0):=(Zh BK102.out 0).trans rfl;have hcz11_1:w10.cell? ⟨gb102,1,none⟩=some (.slice A0_1 l0_1.length c0_1):=(Zh BK102.out 1).trans rfl;have hfz11_0:=Zj BK102.out 0;have hfz11_1:=Zj BK102.out 1)|((with_reducible refine Zs (f:=97) rfl ?_);refine Zv (some 5) rfl rfl Try.func97 (by kernel_rfl) rfl #[.slice A0_0 l0_0.length c0_0] rfl (by (try simp only [List.map_toArray,List.map_cons,List.map_nil]);first|done|rfl|(simp only [List.length_drop,List.length_take];rfl)) ?_;(with_reducible refine (nat_Check.calls _ _ l0_0 false _ ?side1 ?side2 A2.out).mono ?_);(case side1=>repeat (first|exact (Kd.C_below HR0_0.out HB.out)|(with_reducible refine Kd.C_alloc ?_ _)|(with_reducible refine Kd.C_drewN ?_ _)|(with_reducible refine Kd.C_drew ?_)));(case side2=>exact HC0_0.out);rintro e w' ⟨rfl,⟨nd,rfl⟩⟩;refine ⟨_,rfl,?_⟩))
  go_ret
  exact ⟨by first|rfl|(simp [Zm,Zl]<;>rfl)|(simp [*,Zm,Zl]<;>rfl),by repeat (first|(with_reducible first|exact HB.out|apply Zb|apply Za|apply Zc|refine Zd ?_ GE102.out)|exact HB.out)⟩
def ratio_quo.f:Nat->List Int->List Int->Option (List Int × List Int)
 | 0,_,_=>none
 | k+1,l0,l1=>(nat_Cmp.f k l0 l1).bind fun t132=>(if t132<0 then (some (([]:List Int),l0)) else ((nat_Add.f l1 l1).bind fun t133=>((ratio_quo.f k l0 t133).bind fun bt136=>((nat_Add.f bt136.1 bt136.1).bind fun t142=>((nat_Cmp.f k bt136.2 l1).bind fun t145=>(if t145<0 then (some (t142,bt136.2)) else ((nat_Sub.f k bt136.2 l1).bind fun bt146=>((nat_Of.f 1).bind fun t150=>((nat_Add.f t142 t150).bind fun t153=>(some (t153,bt146.1)))))))))))
set_option maxHeartbeats 8000000 in
set_option maxRecDepth 100000 in
theorem ratio_quo.calls (k:Nat):∀ (P0_:Nat->Prop) (A0:Option Addr) (c0:Nat) (l0:List Int) (A1:Option Addr) (c1:Nat) (l1:List Int) (r1:List Int) (r2:List Int) (w:World) (hs0:Kd.V (Kd.int .u32) 89 w w.heap.size (fun k_=>P0_ k_) (.slice A0 l0.length c0) l0) (hr1:Kd.C (Kd.int .u32) w A1 l1.length l1) (hc1:l1.length<=c1) (h:ratio_quo.f k l0 l1=some (r1,r2)),
  Calls Try.prog 99 #[.slice A0 l0.length c0,.slice A1 l1.length c1] w fun e w'=>∃v0_ v1_:Value,e=.returned (.tuple #[v0_,v1_])/\Kd.V (Kd.int .u32) 89 w' w.heap.size (fun k_=>(P0_ k_∨w.heap.size<=k_)) v0_ r1/\Kd.V (Kd.int .u32) 89 w' w.heap.size (fun k_=>(P0_ k_∨w.heap.size<=k_)) v1_ r2/\Below w.heap.size w w':=by
 induction k using Nat.strongRecOn with
 | _ k ih =>
 intro P0_ A0 c0 l0 A1 c1 l1 r1 r2 w hs0 hr1 hc1 h
 cases k with
 | zero=>exact absurd h (by simp [ratio_quo.f])
 | succ k =>
 simp only [ratio_quo.f] at h
 have HO0:=Zz.mk (show Kd.V (Kd.int .u32) 89 w w.heap.size (fun k_=>(P0_ k_∨w.heap.size<=k_)) (.slice A0 l0.length c0) l0 from Kd.V_mono hs0 (fun k_ hk=>.inl hk))
 have HR1:=Zz.mk hr1
 have HC1:=Zz.mk hc1
 clear hr1 hc1
 have HB:=Zz.mk (Below.refl w.heap.size w)
 have H:((nat_Cmp.f k l0 l1).bind fun t132=>(if t132<0 then (some (([]:List Int),l0)) else ((nat_Add.f l1 l1).bind fun t133=>((ratio_quo.f k l0 t133).bind fun bt136=>((nat_Add.f bt136.1 bt136.1).bind fun t142=>((nat_Cmp.f k bt136.2 l1).bind fun t145=>(if t145<0 then (some (t142,bt136.2)) else ((nat_Sub.f k bt136.2 l1).bind fun bt146=>((nat_Of.f 1).bind fun t150=>((nat_Add.f t142 t150).bind fun t153=>(some (t153,bt146.1))))))))))))=some (r1,r2):=h
 clear h
 replace H:=Option.bind_eq_some_iff.mp H
 obtain ⟨t132,A30,H⟩:=H
 replace H:(if t132<0 then (some (([]:List Int),l0)) else ((nat_Add.f l1 l1).bind fun t133=>((ratio_quo.f k l0 t133).bind fun bt136=>((nat_Add.f bt136.1 bt136.1).bind fun t142=>((nat_Cmp.f k bt136.2 l1).bind fun t145=>(if t145<0 then (some (t142,bt136.2)) else ((nat_Sub.f k bt136.2 l1).bind fun bt146=>((nat_Of.f 1).bind fun t150=>((nat_Add.f t142 t150).bind fun t153=>(some (t153,bt146.1)))))))))))=some (r1,r2):=H
 have A3:=Zz.mk A30
 clear A30
 by_cases c4:t132<0
 ·rw [if_pos c4] at H
  have c4b0:decide (t132<0)=true:=decide_eq_true c4
  clear c4
  simp only [Option.some.injEq,Prod.mk.injEq] at H
  obtain ⟨rfl,rfl⟩:=H
  go_enter Try.func99,Try.ntmps99
  go_wp2_with (first|((with_reducible refine Zs (f:=117) rfl ?_);refine Zv (some 10) rfl rfl Try.func117 (by kernel_rfl) rfl #[.slice A0 l0.length c0,.slice A1 l1.length c1] rfl (by (try simp only [List.map_toArray,List.map_cons,List.map_nil]);first|done|rfl|(simp only [List.length_drop,List.length_take];rfl)) ?_;(with_reducible refine (nat_Cmp.calls k _ _ l0 _ _ l1 t132 _ ?side1 ?side2 ?side3 ?side4 A3.out).mono ?_);(case side1=>repeat (first|exact (Kd.V_reads' HO0.out).2.2|(with_reducible refine Kd.C_alloc ?_ _)|(with_reducible refine Kd.C_drewN ?_ _)|(with_reducible refine Kd.C_drew ?_)));(case side2=>exact (Kd.V_reads' HO0.out).2.1);(case side3=>repeat (first|exact HR1.out|(with_reducible refine Kd.C_alloc ?_ _)|(with_reducible refine Kd.C_drewN ?_ _)|(with_reducible refine Kd.C_drew ?_)));(case side4=>exact HC1.out);rintro e w' ⟨rfl,⟨nd,rfl⟩⟩;refine ⟨_,rfl,?_⟩))
  go_ret2
  exact ⟨_,_,by first|rfl|(simp [Zm,Zl]<;>rfl)|(simp [*,Zm,Zl]<;>rfl),Kd.V_mono (Kd.V_nil _ _ _ _ _) (fun k_ hk=>by first|exact ⟨(.inr (hk.1)),hk.2⟩|exact (.inr (hk))),by (with_reducible repeat (first|apply Kd.V_alloc|apply Kd.V_drewN|apply Kd.V_drew));exact HO0.out,by repeat (first|(with_reducible first|exact HB.out|apply Zb|apply Za|apply Zc)|exact HB.out)⟩
 ·rw [if_neg c4] at H
  have c4b0:decide (t132<0)=false:=decide_eq_false c4
  clear c4
  replace H:=Option.bind_eq_some_iff.mp H
  obtain ⟨t133,A50,H⟩:=H
  replace H:((ratio_quo.f k l0 t133).bind fun bt136=>((nat_Add.f bt136.1 bt136.1).bind fun t142=>((nat_Cmp.f k bt136.2 l1).bind fun t145=>(if t145<0 then (some (t142,bt136.2)) else ((nat_Sub.f k bt136.2 l1).bind fun bt146=>((nat_Of.f 1).bind fun t150=>((nat_Add.f t142 t150).bind fun t153=>(some (t153,bt146.1)))))))))=some (r1,r2):=H
  have A5:=Zz.mk A50
  clear A50
  replace H:=Option.bind_eq_some_iff.mp H
  obtain ⟨⟨t136,t139⟩,A60,H⟩:=H
  replace H:((nat_Add.f t136 t136).bind fun t142=>((nat_Cmp.f k t139 l1).bind fun t145=>(if t145<0 then (some (t142,t139)) else ((nat_Sub.f k t139 l1).bind fun bt146=>((nat_Of.f 1).bind fun t150=>((nat_Add.f t142 t150).bind fun t153=>(some (t153,bt146.1))))))))=some (r1,r2):=H
  have A6:=Zz.mk A60
  clear A60
  replace H:=Option.bind_eq_some_iff.mp H
  obtain ⟨t142,A70,H⟩:=H
  replace H:((nat_Cmp.f k t139 l1).bind fun t145=>(if t145<0 then (some (t142,t139)) else ((nat_Sub.f k t139 l1).bind fun bt146=>((nat_Of.f 1).bind fun t150=>((nat_Add.f t142 t150).bind fun t153=>(some (t153,bt146.1)))))))=some (r1,r2):=H
  have A7:=Zz.mk A70
  clear A70
  replace H:=Option.bind_eq_some_iff.mp H
  obtain ⟨t145,A80,H⟩:=H
  replace H:(if t145<0 then (some (t142,t139)) else ((nat_Sub.f k t139 l1).bind fun bt146=>((nat_Of.f 1).bind fun t150=>((nat_Add.f t142 t150).bind fun t153=>(some (t153,bt146.1))))))=some (r1,r2):=H
  have A8:=Zz.mk A80
  clear A80
  by_cases c9:t145<0
  ·rw [if_pos c9] at H
   have c9b0:decide (t145<0)=true:=decide_eq_true c9
   clear c9
   simp only [Option.some.injEq,Prod.mk.injEq] at H
   obtain ⟨rfl,rfl⟩:=H
   go_enter Try.func99,Try.ntmps99
   go_wp2_with (first|((with_reducible refine Zs (f:=117) rfl ?_);refine Zv (some 10) rfl rfl Try.func117 (by kernel_rfl) rfl #[.slice A0 l0.length c0,.slice A1 l1.length c1] rfl (by (try simp only [List.map_toArray,List.map_cons,List.map_nil]);first|done|rfl|(simp only [List.length_drop,List.length_take];rfl)) ?_;(with_reducible refine (nat_Cmp.calls k _ _ l0 _ _ l1 t132 _ ?side1 ?side2 ?side3 ?side4 A3.out).mono ?_);(case side1=>repeat (first|exact (Kd.V_reads' HO0.out).2.2|(with_reducible refine Kd.C_alloc ?_ _)|(with_reducible refine Kd.C_drewN ?_ _)|(with_reducible refine Kd.C_drew ?_)));(case side2=>exact (Kd.V_reads' HO0.out).2.1);(case side3=>repeat (first|exact HR1.out|(with_reducible refine Kd.C_alloc ?_ _)|(with_reducible refine Kd.C_drewN ?_ _)|(with_reducible refine Kd.C_drew ?_)));(case side4=>exact HC1.out);rintro e w' ⟨rfl,⟨nd,rfl⟩⟩;refine ⟨_,rfl,?_⟩;(try clear A3))|((with_reducible refine Zs (f:=118) rfl ?_);refine Zv (some 17) rfl rfl Try.func118 (by kernel_rfl) rfl #[.slice A1 l1.length c1,.slice A1 l1.length c1] rfl (by (try simp only [List.map_toArray,List.map_cons,List.map_nil]);first|done|rfl|(simp only [List.length_drop,List.length_take];rfl)) ?_;(with_reducible refine (nat_Add.calls _ _ l1 _ _ l1 t133 _ ?side1 ?side2 ?side3 ?side4 A5.out).mono ?_);(case side1=>repeat (first|exact HR1.out|(with_reducible refine Kd.C_alloc ?_ _)|(with_reducible refine Kd.C_drewN ?_ _)|(with_reducible refine Kd.C_drew ?_)));(case side2=>exact HC1.out);(case side3=>repeat (first|exact HR1.out|(with_reducible refine Kd.C_alloc ?_ _)|(with_reducible refine Kd.C_drewN ?_ _)|(with_reducible refine Kd.C_drew ?_)));(case side4=>exact HC1.out);rintro e w10 ⟨v134,rfl,ho0,hb⟩;refine ⟨_,rfl,?_⟩;have n0_:=Zz.mk (Kd.V_below (by (with_reducible repeat (first|apply Kd.V_alloc|apply Kd.V_drewN|apply Kd.V_drew));exact HO0.out) hb);have n1_:=Zz.mk (Kd.V_lower (Kd.V_mono (ok':=fun k_=>(P0_ k_∨w.heap.size<=k_)) ho0 (fun k_ hk_=>(.inr (Nat.le_trans (Zf (by repeat (first|(with_reducible first|exact HB.out|apply Zb|apply Za|apply Zc)|exact HB.out))) hk_)))) (Zf (by repeat (first|(with_reducible first|exact HB.out|apply Zb|apply Za|apply Zc)|exact HB.out))));have n2_:=Zz.mk (Zi (by repeat (first|(with_reducible first|exact HB.out|apply Zb|apply Za|apply Zc)|exact HB.out)) hb);clear HO0;clear HB;have HO0:=n0_;have HO135:=n1_;have HB:=n2_;clear n0_ n1_ n2_;(try clear hb);(try clear hb2);(try clear hk);(try clear hi);(try clear ho0);obtain ⟨Ao11,co11,eo11⟩:=Kd.V_slice HO135.out;subst eo11;(try clear A5))|((with_reducible refine Zs (f:=99) rfl ?_);refine Zv (some 18) rfl rfl Try.func99 (by kernel_rfl) rfl #[.slice A0 l0.length c0,.slice Ao11 t133.length co11] rfl (by (try simp only [List.map_toArray,List.map_cons,List.map_nil]);first|done|rfl|(simp only [List.length_drop,List.length_take];rfl)) ?_;(with_reducible refine (ih k (by omega) (fun k_=>(P0_ k_∨w.heap.size<=k_)) _ _ l0 _ _ t133 t136 t139 _ ?side1 ?side2 ?side3 A6.out).mono ?_);(case side1=>exact HO0.out);(case side2=>repeat (first|exact (Kd.V_reads' HO135.out).2.2|(with_reducible refine Kd.C_alloc ?_ _)|(with_reducible refine Kd.C_drewN ?_ _)|(with_reducible refine Kd.C_drew ?_)));(case side3=>exact (Kd.V_reads' HO135.out).2.1);rintro e w12 ⟨v137,v140,rfl,ho0,ho1,hb⟩;refine ⟨_,rfl,?_⟩;have n0_:=Zz.mk (Kd.V_below (by (with_reducible repeat (first|apply Kd.V_alloc|apply Kd.V_drewN|apply Kd.V_drew));exact HO0.out) hb);have n1_:=Zz.mk (Kd.V_below (by (with_reducible repeat (first|apply Kd.V_alloc|apply Kd.V_drewN|apply Kd.V_drew));exact HO135.out) hb);have n2_:=Zz.mk (Kd.V_lower (Kd.V_mono (ok':=fun k_=>(P0_ k_∨w.heap.size<=k_)) ho0 (fun k_ hk_=>Or.elim hk_ (fun hs_=>hs_) (fun hn_=>(.inr (Nat.le_trans (Zf (by repeat (first|(with_reducible first|exact HB.out|apply Zb|apply Za|apply Zc)|exact HB.out))) hn_))))) (Zf (by repeat (first|(with_reducible first|exact HB.out|apply Zb|apply Za|apply Zc)|exact HB.out))));have n3_:=Zz.mk (Kd.V_lower (Kd.V_mono (ok':=fun k_=>(P0_ k_∨w.heap.size<=k_)) ho1 (fun k_ hk_=>Or.elim hk_ (fun hs_=>hs_) (fun hn_=>(.inr (Nat.le_trans (Zf (by repeat (first|(with_reducible first|exact HB.out|apply Zb|apply Za|apply Zc)|exact HB.out))) hn_))))) (Zf (by repeat (first|(with_reducible first|exact HB.out|apply Zb|apply Za|apply Zc)|exact HB.out))));have n4_:=Zz.mk (Zi (by repeat (first|(with_reducible first|exact HB.out|apply Zb|apply Za|apply Zc)|exact HB.out)) hb);clear HO0;clear HO135;clear HB;have HO0:=n0_;have HO135:=n1_;have HO138:=n2_;have HO141:=n3_;have HB:=n4_;clear n0_ n1_ n2_ n3_ n4_;(try clear hb);(try clear hb2);(try clear hk);(try clear hi);(try clear ho0);(try clear ho1);obtain ⟨Ao13,co13,eo13⟩:=Kd.V_slice HO138.out;subst eo13)|((with_reducible refine Zs (f:=118) rfl ?_);refine Zv (some 23) rfl rfl Try.func118 (by kernel_rfl) rfl #[.slice Ao13 t136.length co13,.slice Ao13 t136.length co13] rfl (by (try simp only [List.map_toArray,List.map_cons,List.map_nil]);first|done|rfl|(simp only [List.length_drop,List.length_take];rfl)) ?_;(with_reducible refine (nat_Add.calls _ _ t136 _ _ t136 t142 _ ?side1 ?side2 ?side3 ?side4 A7.out).mono ?_);(case side1=>repeat (first|exact (Kd.V_reads' HO138.out).2.2|(with_reducible refine Kd.C_alloc ?_ _)|(with_reducible refine Kd.C_drewN ?_ _)|(with_reducible refine Kd.C_drew ?_)));(case side2=>exact (Kd.V_reads' HO138.out).2.1);(case side3=>repeat (first|exact (Kd.V_reads' HO138.out).2.2|(with_reducible refine Kd.C_alloc ?_ _)|(with_reducible refine Kd.C_drewN ?_ _)|(with_reducible refine Kd.C_drew ?_)));(case side4=>exact (Kd.V_reads' HO138.out).2.1);rintro e w14 ⟨v143,rfl,ho0,hb⟩;refine ⟨_,rfl,?_⟩;have n0_:=Zz.mk (Kd.V_below (by (with_reducible repeat (first|apply Kd.V_alloc|apply Kd.V_drewN|apply Kd.V_drew));exact HO0.out) hb);have n1_:=Zz.mk (Kd.V_below (by (with_reducible repeat (first|apply Kd.V_alloc|apply Kd.V_drewN|apply Kd.V_drew));exact HO135.out) hb);have n2_:=Zz.mk (Kd.V_below (by (with_reducible repeat (first|apply Kd.V_alloc|apply Kd.V_drewN|apply Kd.V_drew));exact HO138.out) hb);have n3_:=Zz.mk (Kd.V_below (by (with_reducible repeat (first|apply Kd.V_alloc|apply Kd.V_drewN|apply Kd.V_drew));exact HO141.out) hb);have n4_:=Zz.mk (Kd.V_lower (Kd.V_mono (ok':=fun k_=>(P0_ k_∨w.heap.size<=k_)) ho0 (fun k_ hk_=>(.inr (Nat.le_trans (Zf (by repeat (first|(with_reducible first|exact HB.out|apply Zb|apply Za|apply Zc)|exact HB.out))) hk_)))) (Zf (by repeat (first|(with_reducible first|exact HB.out|apply Zb|apply Za|apply Zc)|exact HB.out))));have n5_:=Zz.mk (Zi (by repeat (first|(with_reducible first|exact HB.out|apply Zb|apply Za|apply Zc)|exact HB.out)) hb);clear HO0;clear HO135;clear HO138;clear HO141;clear HB;have HO0:=n0_;have HO135:=n1_;have HO138:=n2_;have HO141:=n3_;have HO144:=n4_;have HB:=n5_;clear n0_ n1_ n2_ n3_ n4_ n5_;(try clear hb);(try clear hb2);(try clear hk);(try clear hi);(try clear ho0);obtain ⟨Ao15,co15,eo15⟩:=Kd.V_slice HO141.out;subst eo15;(try clear A7))|((with_reducible refine Zs (f:=117) rfl ?_);refine Zv (some 26) rfl rfl Try.func117 (by kernel_rfl) rfl #[.slice Ao15 t139.length co15,.slice A1 l1.length c1] rfl (by (try simp only [List.map_toArray,List.map_cons,List.map_nil]);first|done|rfl|(simp only [List.length_drop,List.length_take];rfl)) ?_;(with_reducible refine (nat_Cmp.calls k _ _ t139 _ _ l1 t145 _ ?side1 ?side2 ?side3 ?side4 A8.out).mono ?_);(case side1=>repeat (first|exact (Kd.V_reads' HO141.out).2.2|(with_reducible refine Kd.C_alloc ?_ _)|(with_reducible refine Kd.C_drewN ?_ _)|(with_reducible refine Kd.C_drew ?_)));(case side2=>exact (Kd.V_reads' HO141.out).2.1);(case side3=>repeat (first|exact (Kd.C_below HR1.out HB.out)|(with_reducible refine Kd.C_alloc ?_ _)|(with_reducible refine Kd.C_drewN ?_ _)|(with_reducible refine Kd.C_drew ?_)));(case side4=>exact HC1.out);rintro e w' ⟨rfl,⟨nd,rfl⟩⟩;refine ⟨_,rfl,?_⟩;(try clear A8)))
   go_ret2
   exact ⟨_,_,by first|rfl|(simp [Zm,Zl]<;>rfl)|(simp [*,Zm,Zl]<;>rfl),by (with_reducible repeat (first|apply Kd.V_alloc|apply Kd.V_drewN|apply Kd.V_drew));exact HO144.out,by (with_reducible repeat (first|apply Kd.V_alloc|apply Kd.V_drewN|apply Kd.V_drew));exact HO141.out,by repeat (first|(with_reducible first|exact HB.out|apply Zb|apply Za|apply Zc)|exact HB.out)⟩
  ·rw [if_neg c9] at H
   have c9b0:decide (t145<0)=false:=decide_eq_false c9
   clear c9
   replace H:=Option.bind_eq_some_iff.mp H
   obtain ⟨⟨t146,t149⟩,A160,H⟩:=H
   replace H:((nat_Of.f 1).bind fun t150=>((nat_Add.f t142 t150).bind fun t153=>(some (t153,t146))))=some (r1,r2):=H
   have A16:=Zz.mk A160
   clear A160
   replace H:=Option.bind_eq_some_iff.mp H
   obtain ⟨t150,A170,H⟩:=H
   replace H:((nat_Add.f t142 t150).bind fun t153=>(some (t153,t146)))=some (r1,r2):=H
   have A17:=Zz.mk A170
   clear A170
   replace H:=Option.bind_eq_some_iff.mp H
   obtain ⟨t153,A180,H⟩:=H
   replace H:(some (t153,t146))=some (r1,r2):=H
   have A18:=Zz.mk A180
   clear A180
   simp only [Option.some.injEq,Prod.mk.injEq] at H
   obtain ⟨rfl,rfl⟩:=H
   go_enter Try.func99,Try.ntmps99
   go_wp2_with (first|((with_reducible refine Zs (f:=117) rfl ?_);refine Zv (some 10) rfl rfl Try.func117 (by kernel_rfl) rfl #[.slice A0 l0.length c0,.slice A1 l1.length c1] rfl (by (try simp only [List.map_toArray,List.map_cons,List.map_nil]);first|done|rfl|(simp only [List.length_drop,List.length_take];rfl)) ?_;(with_reducible refine (nat_Cmp.calls k _ _ l0 _ _ l1 t132 _ ?side1 ?side2 ?side3 ?side4 A3.out).mono ?_);(case side1=>repeat (first|exact (Kd.V_reads' HO0.out).2.2|(with_reducible refine Kd.C_alloc ?_ _)|(with_reducible refine Kd.C_drewN ?_ _)|(with_reducible refine Kd.C_drew ?_)));(case side2=>exact (Kd.V_reads' HO0.out).2.1);(case side3=>repeat (first|exact HR1.out|(with_reducible refine Kd.C_alloc ?_ _)|(with_reducible refine Kd.C_drewN ?_ _)|(with_reducible refine Kd.C_drew ?_)));(case side4=>exact HC1.out);rintro e w' ⟨rfl,⟨nd,rfl⟩⟩;refine ⟨_,rfl,?_⟩;(try clear A3))|((with_reducible refine Zs (f:=118) rfl ?_);refine Zv (some 17) rfl rfl Try.func118 (by kernel_rfl) rfl #[.slice A1 l1.length c1,.slice A1 l1.length c1] rfl (by (try simp only [List.map_toArray,List.map_cons,List.map_nil]);first|done|rfl|(simp only [List.length_drop,List.length_take];rfl)) ?_;(with_reducible refine (nat_Add.calls _ _ l1 _ _ l1 t133 _ ?side1 ?side2 ?side3 ?side4 A5.out).mono ?_);(case side1=>repeat (first|exact HR1.out|(with_reducible refine Kd.C_alloc ?_ _)|(with_reducible refine Kd.C_drewN ?_ _)|(with_reducible refine Kd.C_drew ?_)));(case side2=>exact HC1.out);(case side3=>repeat (first|exact HR1.out|(with_reducible refine Kd.C_alloc ?_ _)|(with_reducible refine Kd.C_drewN ?_ _)|(with_reducible refine Kd.C_drew ?_)));(case side4=>exact HC1.out);rintro e w19 ⟨v134,rfl,ho0,hb⟩;refine ⟨_,rfl,?_⟩;have n0_:=Zz.mk (Kd.V_below (by (with_reducible repeat (first|apply Kd.V_alloc|apply Kd.V_drewN|apply Kd.V_drew));exact HO0.out) hb);have n1_:=Zz.mk (Kd.V_lower (Kd.V_mono (ok':=fun k_=>(P0_ k_∨w.heap.size<=k_)) ho0 (fun k_ hk_=>(.inr (Nat.le_trans (Zf (by repeat (first|(with_reducible first|exact HB.out|apply Zb|apply Za|apply Zc)|exact HB.out))) hk_)))) (Zf (by repeat (first|(with_reducible first|exact HB.out|apply Zb|apply Za|apply Zc)|exact HB.out))));have n2_:=Zz.mk (Zi (by repeat (first|(with_reducible first|exact HB.out|apply Zb|apply Za|apply Zc)|exact HB.out)) hb);clear HO0;clear HB;have HO0:=n0_;have HO135:=n1_;have HB:=n2_;clear n0_ n1_ n2_;(try clear hb);(try clear hb2);(try clear hk);(try clear hi);(try clear ho0);obtain ⟨Ao20,co20,eo20⟩:=Kd.V_slice HO135.out;subst eo20;(try clear A5))|((with_reducible refine Zs (f:=99) rfl ?_);refine Zv (some 18) rfl rfl Try.func99 (by kernel_rfl) rfl #[.slice A0 l0.length c0,.slice Ao20 t133.length co20] rfl (by (try simp only [List.map_toArray,List.map_cons,List.map_nil]);first|done|rfl|(simp only [List.length_drop,List.length_take];rfl)) ?_;(with_reducible refine (ih k (by omega) (fun k_=>(P0_ k_∨w.heap.size<=k_)) _ _ l0 _ _ t133 t136 t139 _ ?side1 ?side2 ?side3 A6.out).mono ?_);(case side1=>exact HO0.out);(case side2=>repeat (first|exact (Kd.V_reads' HO135.out).2.2|(with_reducible refine Kd.C_alloc ?_ _)|(with_reducible refine Kd.C_drewN ?_ _)|(with_reducible refine Kd.C_drew ?_)));(case side3=>exact (Kd.V_reads' HO135.out).2.1);rintro e w21 ⟨v137,v140,rfl,ho0,ho1,hb⟩;refine ⟨_,rfl,?_⟩;have n0_:=Zz.mk (Kd.V_below (by (with_reducible repeat (first|apply Kd.V_alloc|apply Kd.V_drewN|apply Kd.V_drew));exact HO0.out) hb);have n1_:=Zz.mk (Kd.V_below (by (with_reducible repeat (first|apply Kd.V_alloc|apply Kd.V_drewN|apply Kd.V_drew));exact HO135.out) hb);have n2_:=Zz.mk (Kd.V_lower (Kd.V_mono (ok':=fun k_=>(P0_ k_∨w.heap.size<=k_)) ho0 (fun k_ hk_=>Or.elim hk_ (fun hs_=>hs_) (fun hn_=>(.inr (Nat.le_trans (Zf (by repeat (first|(with_reducible first|exact HB.out|apply Zb|apply Za|apply Zc)|exact HB.out))) hn_))))) (Zf (by repeat (first|(with_reducible first|exact HB.out|apply Zb|apply Za|apply Zc)|exact HB.out))));have n3_:=Zz.mk (Kd.V_lower (Kd.V_mono (ok':=fun k_=>(P0_ k_∨w.heap.size<=k_)) ho1 (fun k_ hk_=>Or.elim hk_ (fun hs_=>hs_) (fun hn_=>(.inr (Nat.le_trans (Zf (by repeat (first|(with_reducible first|exact HB.out|apply Zb|apply Za|apply Zc)|exact HB.out))) hn_))))) (Zf (by repeat (first|(with_reducible first|exact HB.out|apply Zb|apply Za|apply Zc)|exact HB.out))));have n4_:=Zz.mk (Zi (by repeat (first|(with_reducible first|exact HB.out|apply Zb|apply Za|apply Zc)|exact HB.out)) hb);clear HO0;clear HO135;clear HB;have HO0:=n0_;have HO135:=n1_;have HO138:=n2_;have HO141:=n3_;have HB:=n4_;clear n0_ n1_ n2_ n3_ n4_;(try clear hb);(try clear hb2);(try clear hk);(try clear hi);(try clear ho0);(try clear ho1);obtain ⟨Ao22,co22,eo22⟩:=Kd.V_slice HO138.out;subst eo22)|((with_reducible refine Zs (f:=118) rfl ?_);refine Zv (some 23) rfl rfl Try.func118 (by kernel_rfl) rfl #[.slice Ao22 t136.length co22,.slice Ao22 t136.length co22] rfl (by (try simp only [List.map_toArray,List.map_cons,List.map_nil]);first|done|rfl|(simp only [List.length_drop,List.length_take];rfl)) ?_;(with_reducible refine (nat_Add.calls _ _ t136 _ _ t136 t142 _ ?side1 ?side2 ?side3 ?side4 A7.out).mono ?_);(case side1=>repeat (first|exact (Kd.V_reads' HO138.out).2.2|(with_reducible refine Kd.C_alloc ?_ _)|(with_reducible refine Kd.C_drewN ?_ _)|(with_reducible refine Kd.C_drew ?_)));(case side2=>exact (Kd.V_reads' HO138.out).2.1);(case side3=>repeat (first|exact (Kd.V_reads' HO138.out).2.2|(with_reducible refine Kd.C_alloc ?_ _)|(with_reducible refine Kd.C_drewN ?_ _)|(with_reducible refine Kd.C_drew ?_)));(case side4=>exact (Kd.V_reads' HO138.out).2.1);rintro e w23 ⟨v143,rfl,ho0,hb⟩;refine ⟨_,rfl,?_⟩;have n0_:=Zz.mk (Kd.V_below (by (with_reducible repeat (first|apply Kd.V_alloc|apply Kd.V_drewN|apply Kd.V_drew));exact HO0.out) hb);have n1_:=Zz.mk (Kd.V_below (by (with_reducible repeat (first|apply Kd.V_alloc|apply Kd.V_drewN|apply Kd.V_drew));exact HO135.out) hb);have n2_:=Zz.mk (Kd.V_below (by (with_reducible repeat (first|apply Kd.V_alloc|apply Kd.V_drewN|apply Kd.V_drew));exact HO138.out) hb);have n3_:=Zz.mk (Kd.V_below (by (with_reducible repeat (first|apply Kd.V_alloc|apply Kd.V_drewN|apply Kd.V_drew));exact HO141.out) hb);have n4_:=Zz.mk (Kd.V_lower (Kd.V_mono (ok':=fun k_=>(P0_ k_∨w.heap.size<=k_)) ho0 (fun k_ hk_=>(.inr (Nat.le_trans (Zf (by repeat (first|(with_reducible first|exact HB.out|apply Zb|apply Za|apply Zc)|exact HB.out))) hk_)))) (Zf (by repeat (first|(with_reducible first|exact HB.out|apply Zb|apply Za|apply Zc)|exact HB.out))));have n5_:=Zz.mk (Zi (by repeat (first|(with_reducible first|exact HB.out|apply Zb|apply Za|apply Zc)|exact HB.out)) hb);clear HO0;clear HO135;clear HO138;clear HO141;clear HB;have HO0:=n0_;have HO135:=n1_;have HO138:=n2_;have HO141:=n3_;have HO144:=n4_;have HB:=n5_;clear n0_ n1_ n2_ n3_ n4_ n5_;(try clear hb);(try clear hb2);(try clear hk);(try clear hi);(try clear ho0);obtain ⟨Ao24,co24,eo24⟩:=Kd.V_slice HO141.out;subst eo24;(try clear A7))|((with_reducible refine Zs (f:=117) rfl ?_);refine Zv (some 26) rfl rfl Try.func117 (by kernel_rfl) rfl #[.slice Ao24 t139.length co24,.slice A1 l1.length c1] rfl (by (try simp only [List.map_toArray,List.map_cons,List.map_nil]);first|done|rfl|(simp only [List.length_drop,List.length_take];rfl)) ?_;(with_reducible refine (nat_Cmp.calls k _ _ t139 _ _ l1 t145 _ ?side1 ?side2 ?side3 ?side4 A8.out).mono ?_);(case side1=>repeat (first|exact (Kd.V_reads' HO141.out).2.2|(with_reducible refine Kd.C_alloc ?_ _)|(with_reducible refine Kd.C_drewN ?_ _)|(with_reducible refine Kd.C_drew ?_)));(case side2=>exact (Kd.V_reads' HO141.out).2.1);(case side3=>repeat (first|exact (Kd.C_below HR1.out HB.out)|(with_reducible refine Kd.C_alloc ?_ _)|(with_reducible refine Kd.C_drewN ?_ _)|(with_reducible refine Kd.C_drew ?_)));(case side4=>exact HC1.out);rintro e w' ⟨rfl,⟨nd,rfl⟩⟩;refine ⟨_,rfl,?_⟩;(try clear A8))|((with_reducible refine Zs (f:=107) rfl ?_);refine Zv (some 33) rfl rfl Try.func107 (by kernel_rfl) rfl #[.slice Ao24 t139.length co24,.slice A1 l1.length c1] rfl (by (try simp only [List.map_toArray,List.map_cons,List.map_nil]);first|done|rfl|(simp only [List.length_drop,List.length_take];rfl)) ?_;(with_reducible refine (nat_Sub.calls k _ _ t139 _ _ l1 t146 t149 _ ?side1 ?side2 ?side3 ?side4 A16.out).mono ?_);(case side1=>repeat (first|exact (Kd.V_reads' HO141.out).2.2|(with_reducible refine Kd.C_alloc ?_ _)|(with_reducible refine Kd.C_drewN ?_ _)|(with_reducible refine Kd.C_drew ?_)));(case side2=>exact (Kd.V_reads' HO141.out).2.1);(case side3=>repeat (first|exact (Kd.C_below HR1.out (by repeat (first|(with_reducible first|exact HB.out|apply Zb|apply Za|apply Zc)|exact HB.out)))|(with_reducible refine Kd.C_alloc ?_ _)|(with_reducible refine Kd.C_drewN ?_ _)|(with_reducible refine Kd.C_drew ?_)));(case side4=>exact HC1.out);rintro e w25 ⟨v147,rfl,ho0,hb⟩;refine ⟨_,rfl,?_⟩;have n0_:=Zz.mk (Kd.V_below (by (with_reducible repeat (first|apply Kd.V_alloc|apply Kd.V_drewN|apply Kd.V_drew));exact HO0.out) hb);have n1_:=Zz.mk (Kd.V_below (by (with_reducible repeat (first|apply Kd.V_alloc|apply Kd.V_drewN|apply Kd.V_drew));exact HO135.out) hb);have n2_:=Zz.mk (Kd.V_below (by (with_reducible repeat (first|apply Kd.V_alloc|apply Kd.V_drewN|apply Kd.V_drew));exact HO138.out) hb);have n3_:=Zz.mk (Kd.V_below (by (with_reducible repeat (first|apply Kd.V_alloc|apply Kd.V_drewN|apply Kd.V_drew));exact HO141.out) hb);have n4_:=Zz.mk (Kd.V_below (by (with_reducible repeat (first|apply Kd.V_alloc|apply Kd.V_drewN|apply Kd.V_drew));exact HO144.out) hb);have n5_:=Zz.mk (Kd.V_lower (Kd.V_mono (ok':=fun k_=>(P0_ k_∨w.heap.size<=k_)) ho0 (fun k_ hk_=>(.inr (Nat.le_trans (Zf (by repeat (first|(with_reducible first|exact HB.out|apply Zb|apply Za|apply Zc)|exact HB.out))) hk_)))) (Zf (by repeat (first|(with_reducible first|exact HB.out|apply Zb|apply Za|apply Zc)|exact HB.out))));have n6_:=Zz.mk (Zi (by repeat (first|(with_reducible first|exact HB.out|apply Zb|apply Za|apply Zc)|exact HB.out)) hb);clear HO0;clear HO135;clear HO138;clear HO141;clear HO144;clear HB;have HO0:=n0_;have HO135:=n1_;have HO138:=n2_;have HO141:=n3_;have HO144:=n4_;have HO148:=n5_;have HB:=n6_;clear n0_ n1_ n2_ n3_ n4_ n5_ n6_;(try clear hb);(try clear hb2);(try clear hk);(try clear hi);(try clear ho0))|((with_reducible refine Zs (f:=100) rfl ?_);refine Zv (some 37) rfl rfl Try.func100 (by kernel_rfl) rfl #[.int .u64 1] rfl (by (try simp only [List.map_toArray,List.map_cons,List.map_nil]);first|done|rfl|(simp only [List.length_drop,List.length_take];rfl)) ?_;(with_reducible refine (nat_Of.calls 1 t150 _ A17.out).mono ?_);rintro e w26 ⟨v151,rfl,ho0,hb⟩;refine ⟨_,rfl,?_⟩;have n0_:=Zz.mk (Kd.V_below (by (with_reducible repeat (first|apply Kd.V_alloc|apply Kd.V_drewN|apply Kd.V_drew));exact HO0.out) hb);have n1_:=Zz.mk (Kd.V_below (by (with_reducible repeat (first|apply Kd.V_alloc|apply Kd.V_drewN|apply Kd.V_drew));exact HO135.out) hb);have n2_:=Zz.mk (Kd.V_below (by (with_reducible repeat (first|apply Kd.V_alloc|apply Kd.V_drewN|apply Kd.V_drew));exact HO138.out) hb);have n3_:=Zz.mk (Kd.V_below (by (with_reducible repeat (first|apply Kd.V_alloc|apply Kd.V_drewN|apply Kd.V_drew));exact HO141.out) hb);have n4_:=Zz.mk (Kd.V_below (by (with_reducible repeat (first|apply Kd.V_alloc|apply Kd.V_drewN|apply Kd.V_drew));exact HO144.out) hb);have n5_:=Zz.mk (Kd.V_below (by (with_reducible repeat (first|apply Kd.V_alloc|apply Kd.V_drewN|apply Kd.V_drew));exact HO148.out) hb);have n6_:=Zz.mk (Kd.V_lower (Kd.V_mono (ok':=fun k_=>(P0_ k_∨w.heap.size<=k_)) ho0 (fun k_ hk_=>(.inr (Nat.le_trans (Zf (by repeat (first|(with_reducible first|exact HB.out|apply Zb|apply Za|apply Zc)|exact HB.out))) hk_)))) (Zf (by repeat (first|(with_reducible first|exact HB.out|apply Zb|apply Za|apply Zc)|exact HB.out))));have n7_:=Zz.mk (Zi (by repeat (first|(with_reducible first|exact HB.out|apply Zb|apply Za|apply Zc)|exact HB.out)) hb);clear HO0;clear HO135;clear HO138;clear HO141;clear HO144;clear HO148;clear HB;have HO0:=n0_;have HO135:=n1_;have HO138:=n2_;have HO141:=n3_;have HO144:=n4_;have HO148:=n5_;have HO152:=n6_;have HB:=n7_;clear n0_ n1_ n2_ n3_ n4_ n5_ n6_ n7_;(try clear hb);(try clear hb2);(try clear hk);(try clear hi);(try clear ho0);obtain ⟨Ao27,co27,eo27⟩:=Kd.V_slice HO144.out;subst eo27;obtain ⟨Ao28,co28,eo28⟩:=Kd.V_slice HO152.out;subst eo28)|((with_reducible refine Zs (f:=118) rfl ?_);refine Zv (some 38) rfl rfl Try.func118 (by kernel_rfl) rfl #[.slice Ao27 t142.length co27,.slice Ao28 t150.length co28] rfl (by (try simp only [List.map_toArray,List.map_cons,List.map_nil]);first|done|rfl|(simp only [List.length_drop,List.length_take];rfl)) ?_;(with_reducible refine (nat_Add.calls _ _ t142 _ _ t150 t153 _ ?side1 ?side2 ?side3 ?side4 A18.out).mono ?_);(case side1=>repeat (first|exact (Kd.V_reads' HO144.out).2.2|(with_reducible refine Kd.C_alloc ?_ _)|(with_reducible refine Kd.C_drewN ?_ _)|(with_reducible refine Kd.C_drew ?_)));(case side2=>exact (Kd.V_reads' HO144.out).2.1);(case side3=>repeat (first|exact (Kd.V_reads' HO152.out).2.2|(with_reducible refine Kd.C_alloc ?_ _)|(with_reducible refine Kd.C_drewN ?_ _)|(with_reducible refine Kd.C_drew ?_)));(case side4=>exact (Kd.V_reads' HO152.out).2.1);rintro e w29 ⟨v154,rfl,ho0,hb⟩;refine ⟨_,rfl,?_⟩;have n0_:=Zz.mk (Kd.V_below (by (with_reducible repeat (first|apply Kd.V_alloc|apply Kd.V_drewN|apply Kd.V_drew));exact HO0.out) hb);have n1_:=Zz.mk (Kd.V_below (by (with_reducible repeat (first|apply Kd.V_alloc|apply Kd.V_drewN|apply Kd.V_drew));exact HO135.out) hb);have n2_:=Zz.mk (Kd.V_below (by (with_reducible repeat (first|apply Kd.V_alloc|apply Kd.V_drewN|apply Kd.V_drew));exact HO138.out) hb);have n3_:=Zz.mk (Kd.V_below (by (with_reducible repeat (first|apply Kd.V_alloc|apply Kd.V_drewN|apply Kd.V_drew));exact HO141.out) hb);have n4_:=Zz.mk (Kd.V_below (by (with_reducible repeat (first|apply Kd.V_alloc|apply Kd.V_drewN|apply Kd.V_drew));exact HO144.out) hb);have n5_:=Zz.mk (Kd.V_below (by (with_reducible repeat (first|apply Kd.V_alloc|apply Kd.V_drewN|apply Kd.V_drew));exact HO148.out) hb);have n6_:=Zz.mk (Kd.V_below (by (with_reducible repeat (first|apply Kd.V_alloc|apply Kd.V_drewN|apply Kd.V_drew));exact HO152.out) hb);have n7_:=Zz.mk (Kd.V_lower (Kd.V_mono (ok':=fun k_=>(P0_ k_∨w.heap.size<=k_)) ho0 (fun k_ hk_=>(.inr (Nat.le_trans (Zf (by repeat (first|(with_reducible first|exact HB.out|apply Zb|apply Za|apply Zc)|exact HB.out))) hk_)))) (Zf (by repeat (first|(with_reducible first|exact HB.out|apply Zb|apply Za|apply Zc)|exact HB.out))));have n8_:=Zz.mk (Zi (by repeat (first|(with_reducible first|exact HB.out|apply Zb|apply Za|apply Zc)|exact HB.out)) hb);clear HO0;clear HO135;clear HO138;clear HO141;clear HO144;clear HO148;clear HO152;clear HB;have HO0:=n0_;have HO135:=n1_;have HO138:=n2_;have HO141:=n3_;have HO144:=n4_;have HO148:=n5_;have HO152:=n6_;have HO155:=n7_;have HB:=n8_;clear n0_ n1_ n2_ n3_ n4_ n5_ n6_ n7_ n8_;(try clear hb);(try clear hb2);(try clear hk);(try clear hi);(try clear ho0);(try clear A18)))
   go_ret2
   exact ⟨_,_,by first|rfl|(simp [Zm,Zl]<;>rfl)|(simp [*,Zm,Zl]<;>rfl),by (with_reducible repeat (first|apply Kd.V_alloc|apply Kd.V_drewN|apply Kd.V_drew));exact HO155.out,by (with_reducible repeat (first|apply Kd.V_alloc|apply Kd.V_drewN|apply Kd.V_drew));exact HO148.out,by repeat (first|(with_reducible first|exact HB.out|apply Zb|apply Za|apply Zc)|exact HB.out)⟩
def ratio_gcd.l0:Nat->List Int->List Int->Option (List Int)
 | 0,_,_=>none
 | k+1,x0,x1=>if (x1.length:Int)=0 then (some x0) else ((ratio_quo.f k x0 x1).bind fun bt156=>(ratio_gcd.l0 k x1 bt156.2))
def ratio_gcd.f (k:Nat) (l0:List Int) (l1:List Int):Option (List Int):=ratio_gcd.l0 k l0 l1
set_option maxHeartbeats 8000000 in
set_option maxRecDepth 100000 in
theorem ratio_gcd.calls (k:Nat) (P0_:Nat->Prop) (A0:Option Addr) (c0:Nat) (l0:List Int) (P1_:Nat->Prop) (A1:Option Addr) (c1:Nat) (l1:List Int) (r:List Int) (w:World) (hs0:Kd.V (Kd.int .u32) 89 w w.heap.size (fun k_=>P0_ k_) (.slice A0 l0.length c0) l0) (hs1:Kd.V (Kd.int .u32) 89 w w.heap.size (fun k_=>P1_ k_) (.slice A1 l1.length c1) l1) (h:ratio_gcd.f k l0 l1=some r) :
  Calls Try.prog 98 #[.slice A0 l0.length c0,.slice A1 l1.length c1] w fun e w'=>∃v0_:Value,e=.returned (v0_)/\Kd.V (Kd.int .u32) 89 w' w.heap.size (fun k_=>((P0_ k_∨P1_ k_)∨w.heap.size<=k_)) v0_ r/\Below w.heap.size w w':=by
 have HO0:=Zz.mk (show Kd.V (Kd.int .u32) 89 w w.heap.size (fun k_=>((P0_ k_∨P1_ k_)∨w.heap.size<=k_)) (.slice A0 l0.length c0) l0 from Kd.V_mono hs0 (fun k_ hk=>.inl (.inl hk)))
 have HO1:=Zz.mk (show Kd.V (Kd.int .u32) 89 w w.heap.size (fun k_=>((P0_ k_∨P1_ k_)∨w.heap.size<=k_)) (.slice A1 l1.length c1) l1 from Kd.V_mono hs1 (fun k_ hk=>.inl (.inr hk)))
 have HB:=Zz.mk (Below.refl w.heap.size w)
 have H:(ratio_gcd.l0 k l0 l1)=some r:=h
 clear h
 have H':=Zz.mk H
 clear H
 go_enter Try.func98,Try.ntmps98
 go_wp2_with (first|go_step3|(with_reducible refine noGoto_normal_i ?_)|go_in)
 go_loopg [0,1] k (fun kq v0 v1 w'=>∃ (x0_1:List Int) (x1_1:List Int),Zz (ratio_gcd.l0 kq x0_1 x1_1=some r)/\Zz (kq<=k)/\Zz (Kd.V (Kd.int .u32) 89 w' w.heap.size (fun k_=>((P0_ k_∨P1_ k_)∨w.heap.size<=k_)) v0 x0_1)/\Zz (Kd.V (Kd.int .u32) 89 w' w.heap.size (fun k_=>((P0_ k_∨P1_ k_)∨w.heap.size<=k_)) v1 x1_1)/\Zz (Below w.heap.size w w'))
 case atStart=>exact ⟨(l0),(l1),H',⟨Nat.le_refl _⟩,⟨by (with_reducible repeat (first|apply Kd.V_alloc|apply Kd.V_drewN|apply Kd.V_drew));exact HO0.out⟩,⟨by (with_reducible repeat (first|apply Kd.V_alloc|apply Kd.V_drewN|apply Kd.V_drew));exact HO1.out⟩,⟨by repeat (first|(with_reducible first|exact HB.out|apply Zb|apply Za|apply Zc)|exact HB.out)⟩⟩
 case round =>
  clear H'
  try clear c1
  try clear p2
  obtain ⟨x0_1,x1_1,HA,HK1,HO_0,HO_1,HB⟩:=hrel
  cases gk with
  | zero=>exact absurd HA.out (by simp [ratio_gcd.l0])
  | succ k1 =>
   have H:=HA.out
   clear HA
   simp only [ratio_gcd.l0] at H
   by_cases c3:(x1_1.length:Int)=0
   ·rw [if_pos c3] at H
    have c3b0:((x1_1.length:Int) == 0)=true:=beq_iff_eq.mpr c3
    have c3b1:((x1_1.length:Int) != 0)=false:=bne_eq_false_iff_eq.mpr c3
    clear c3
    obtain rfl:=Option.some.inj H
    obtain ⟨Ao4,co4,eo4⟩:=Kd.V_slice HO_1.out
    subst eo4
    go_wp2_with (first|go_step3|(with_reducible refine noGoto_normal_i ?_)|go_in)
    (try simp only [Exit.inBlock,Exit.then,Exit.noGoto_ret,Exit.noGoto_normal]);go_ret
    exact ⟨_,by first|rfl|(simp [Zm,Zl]<;>rfl)|(simp [*,Zm,Zl]<;>rfl),by (with_reducible repeat (first|apply Kd.V_alloc|apply Kd.V_drewN|apply Kd.V_drew));exact HO_0.out,by repeat (first|(with_reducible first|exact HB.out|apply Zb|apply Za|apply Zc)|exact HB.out)⟩
   ·rw [if_neg c3] at H
    have c3b0:((x1_1.length:Int) == 0)=false:=beq_eq_false_iff_ne.mpr c3
    have c3b1:((x1_1.length:Int) != 0)=true:=bne_iff_ne.mpr c3
    have c3b2:¬ (x1_1 = []):=fun h_=>c3 (by rw [h_];rfl)
    replace H:=Option.bind_eq_some_iff.mp H
    obtain ⟨⟨t156,t159⟩,A50,H⟩:=H
    replace H:(ratio_gcd.l0 k1 x1_1 t159)=some r:=H
    have A5:=Zz.mk A50
    clear A50
    have H':=Zz.mk H
    clear H
    obtain ⟨Ao6,co6,eo6⟩:=Kd.V_slice HO_1.out
    subst eo6
    obtain ⟨Ao7,co7,eo7⟩:=Kd.V_slice HO_0.out
    subst eo7
    go_wp2_with (first|go_step3|((with_reducible refine Zs (f:=99) rfl ?_);refine Zv (some 13) rfl rfl Try.func99 (by kernel_rfl) rfl #[.slice Ao7 x0_1.length co7,.slice Ao6 x1_1.length co6] rfl (by (try simp only [List.map_toArray,List.map_cons,List.map_nil]);first|done|rfl|(simp only [List.length_drop,List.length_take];rfl)) ?_;(with_reducible refine (ratio_quo.calls k1 (fun k_=>((P0_ k_∨P1_ k_)∨w.heap.size<=k_)) _ _ x0_1 _ _ x1_1 t156 t159 _ ?side1 ?side2 ?side3 A5.out).mono ?_);(case side1=>exact HO_0.out);(case side2=>repeat (first|exact (Kd.V_reads' HO_1.out).2.2|(with_reducible refine Kd.C_alloc ?_ _)|(with_reducible refine Kd.C_drewN ?_ _)|(with_reducible refine Kd.C_drew ?_)));(case side3=>exact (Kd.V_reads' HO_1.out).2.1);rintro e w8 ⟨v157,v160,rfl,ho0,ho1,hb⟩;refine ⟨_,rfl,?_⟩;have n0_:=Zz.mk (Kd.V_below (by (with_reducible repeat (first|apply Kd.V_alloc|apply Kd.V_drewN|apply Kd.V_drew));exact HO_0.out) hb);have n1_:=Zz.mk (Kd.V_below (by (with_reducible repeat (first|apply Kd.V_alloc|apply Kd.V_drewN|apply Kd.V_drew));exact HO_1.out) hb);have n2_:=Zz.mk (Kd.V_lower (Kd.V_mono (ok':=fun k_=>((P0_ k_∨P1_ k_)∨w.heap.size<=k_)) ho0 (fun k_ hk_=>Or.elim hk_ (fun hs_=>hs_) (fun hn_=>(.inr (Nat.le_trans (Zf (by repeat (first|(with_reducible first|exact HB.out|apply Zb|apply Za|apply Zc)|exact HB.out))) hn_))))) (Zf (by repeat (first|(with_reducible first|exact HB.out|apply Zb|apply Za|apply Zc)|exact HB.out))));have n3_:=Zz.mk (Kd.V_lower (Kd.V_mono (ok':=fun k_=>((P0_ k_∨P1_ k_)∨w.heap.size<=k_)) ho1 (fun k_ hk_=>Or.elim hk_ (fun hs_=>hs_) (fun hn_=>(.inr (Nat.le_trans (Zf (by repeat (first|(with_reducible first|exact HB.out|apply Zb|apply Za|apply Zc)|exact HB.out))) hn_))))) (Zf (by repeat (first|(with_reducible first|exact HB.out|apply Zb|apply Za|apply Zc)|exact HB.out))));have n4_:=Zz.mk (Zi (by repeat (first|(with_reducible first|exact HB.out|apply Zb|apply Za|apply Zc)|exact HB.out)) hb);clear HO_0;clear HO_1;clear HB;have HO_0:=n0_;have HO_1:=n1_;have HO158:=n2_;have HO161:=n3_;have HB:=n4_;clear n0_ n1_ n2_ n3_ n4_;(try clear hb);(try clear hb2);(try clear hk);(try clear hi);(try clear ho0);(try clear ho1)))
    go_roundg k1
    case measure=>have:=HK1.out;omega
    case rel=>exact ⟨(x1_1),(t159),H',⟨by have:=HK1.out;omega⟩,⟨by (with_reducible repeat (first|apply Kd.V_alloc|apply Kd.V_drewN|apply Kd.V_drew));exact HO_1.out⟩,⟨by (with_reducible repeat (first|apply Kd.V_alloc|apply Kd.V_drewN|apply Kd.V_drew));exact HO161.out⟩,⟨by repeat (first|(with_reducible first|exact HB.out|apply Zb|apply Za|apply Zc)|exact HB.out)⟩⟩
def ratio_Least.f (k:Nat) (l0_0:List Int) (l0_1:List Int):Option (List Int × List Int):=(ratio_Check.f l0_0 l0_1).bind fun t164=>(if t164=true then ((ratio_gcd.f k l0_0 l0_1).bind fun t165=>((ratio_quo.f k l0_0 t165).bind fun bt168=>((ratio_quo.f k l0_1 t165).bind fun bt174=>(some (bt168.1,bt174.1))))) else (some (l0_0,l0_1)))
set_option maxHeartbeats 8000000 in
set_option maxRecDepth 100000 in
theorem ratio_Least.calls (k:Nat) (P0_0_:Nat->Prop) (A0_0:Option Addr) (c0_0:Nat) (l0_0:List Int) (P0_1_:Nat->Prop) (A0_1:Option Addr) (c0_1:Nat) (l0_1:List Int) (r1:List Int) (r2:List Int) (w:World) (hs0_0:Kd.V (Kd.int .u32) 89 w w.heap.size (fun k_=>P0_0_ k_) (.slice A0_0 l0_0.length c0_0) l0_0) (hs0_1:Kd.V (Kd.int .u32) 89 w w.heap.size (fun k_=>P0_1_ k_) (.slice A0_1 l0_1.length c0_1) l0_1) (h:ratio_Least.f k l0_0 l0_1=some (r1,r2)) :
  Calls Try.prog 63 #[.agg #[.slice A0_0 l0_0.length c0_0,.slice A0_1 l0_1.length c0_1]] w fun e w'=>∃v0_ v1_:Value,e=.returned (.agg #[v0_,v1_])/\Kd.V (Kd.int .u32) 89 w' w.heap.size (fun k_=>((P0_0_ k_∨P0_1_ k_)∨w.heap.size<=k_)) v0_ r1/\Kd.V (Kd.int .u32) 89 w' w.heap.size (fun k_=>((P0_0_ k_∨P0_1_ k_)∨w.heap.size<=k_)) v1_ r2/\Below w.heap.size w w':=by
 have hu28:=Try.underlying28
 have HO0_0:=Zz.mk (show Kd.V (Kd.int .u32) 89 w w.heap.size (fun k_=>((P0_0_ k_∨P0_1_ k_)∨w.heap.size<=k_)) (.slice A0_0 l0_0.length c0_0) l0_0 from Kd.V_mono hs0_0 (fun k_ hk=>.inl (.inl hk)))
 have HO0_1:=Zz.mk (show Kd.V (Kd.int .u32) 89 w w.heap.size (fun k_=>((P0_0_ k_∨P0_1_ k_)∨w.heap.size<=k_)) (.slice A0_1 l0_1.length c0_1) l0_1 from Kd.V_mono hs0_1 (fun k_ hk=>.inl (.inr hk)))
 have HB:=Zz.mk (Below.refl w.heap.size w)
 have H:((ratio_Check.f l0_0 l0_1).bind fun t164=>(if t164=true then ((ratio_gcd.f k l0_0 l0_1).bind fun t165=>((ratio_quo.f k l0_0 t165).bind fun bt168=>((ratio_quo.f k l0_1 t165).bind fun bt174=>(some (bt168.1,bt174.1))))) else (some (l0_0,l0_1))))=some (r1,r2):=h
 clear h
 replace H:=Option.bind_eq_some_iff.mp H
 obtain ⟨t164,A20,H⟩:=H
 replace H:(if t164=true then ((ratio_gcd.f k l0_0 l0_1).bind fun t165=>((ratio_quo.f k l0_0 t165).bind fun bt168=>((ratio_quo.f k l0_1 t165).bind fun bt174=>(some (bt168.1,bt174.1))))) else (some (l0_0,l0_1)))=some (r1,r2):=H
 have A2:=Zz.mk A20
 clear A20
 by_cases c3:t164=true
 ·subst c3
  have H1:((ratio_gcd.f k l0_0 l0_1).bind fun t165=>((ratio_quo.f k l0_0 t165).bind fun bt168=>((ratio_quo.f k l0_1 t165).bind fun bt174=>(some (bt168.1,bt174.1)))))=some (r1,r2):=by rw [if_pos rfl] at H;exact H
  clear H
  have H:=H1
  clear H1
  replace H:=Option.bind_eq_some_iff.mp H
  obtain ⟨t165,A40,H⟩:=H
  replace H:((ratio_quo.f k l0_0 t165).bind fun bt168=>((ratio_quo.f k l0_1 t165).bind fun bt174=>(some (bt168.1,bt174.1))))=some (r1,r2):=H
  have A4:=Zz.mk A40
  clear A40
  replace H:=Option.bind_eq_some_iff.mp H
  obtain ⟨⟨t168,t171⟩,A50,H⟩:=H
  replace H:((ratio_quo.f k l0_1 t165).bind fun bt174=>(some (t168,bt174.1)))=some (r1,r2):=H
  have A5:=Zz.mk A50
  clear A50
  replace H:=Option.bind_eq_some_iff.mp H
  obtain ⟨⟨t174,t177⟩,A60,H⟩:=H
  replace H:(some (t168,t174))=some (r1,r2):=H
  have A6:=Zz.mk A60
  clear A60
  simp only [Option.some.injEq,Prod.mk.injEq] at H
  obtain ⟨rfl,rfl⟩:=H
  go_enter Try.func63,Try.ntmps63
  go_wp2_with (first|((with_reducible refine Zt (N:=1) rfl ?_);refine Zu ?hg (N:=1) ?hd (cs:=#[.slice A0_0 l0_0.length c0_0,.slice A0_1 l0_1.length c0_1]) (t:=28) ?hr ?_;(case hd=>rfl);(case hg=>rfl);(case hr=>first|(go_simp;done)|(go_simp;rfl));intro gb162 hg w7 hbox hb;have n0_:=Zz.mk (Kd.V_below (Kd.V_elderB (by (with_reducible repeat (first|apply Kd.V_alloc|apply Kd.V_drewN|apply Kd.V_drew));exact HO0_0.out) gb162 (Nat.le_of_eq hg.symm)) hb);have n1_:=Zz.mk (Kd.V_below (Kd.V_elderB (by (with_reducible repeat (first|apply Kd.V_alloc|apply Kd.V_drewN|apply Kd.V_drew));exact HO0_1.out) gb162 (Nat.le_of_eq hg.symm)) hb);have n2_:=Zz.mk (Zi (by repeat (first|(with_reducible first|exact HB.out|apply Zb|apply Za|apply Zc)|exact HB.out)) hb);have n3_:=Zz.mk (hbox);have n4_:=Zz.mk ((by rw [hg];exact (Zf (by repeat (first|(with_reducible first|exact HB.out|apply Zb|apply Za|apply Zc)|exact HB.out))):w.heap.size<=gb162));have n5_:=Zz.mk ((by rw [hg];exact (Zf (by repeat (first|(with_reducible first|exact HB.out|apply Zb|apply Za|apply Zc)|exact HB.out))):w.heap.size<=gb162));clear HO0_0;clear HO0_1;clear HB;have HO0_0:=n0_;have HO0_1:=n1_;have HB:=n2_;have BK162:=n3_;have GW162:=n4_;have GE162:=n5_;clear n0_ n1_ n2_ n3_ n4_ n5_;clear hb hbox hg)|((with_reducible refine Zt (N:=2) rfl ?_);refine Zu ?hg (N:=2) ?hd (cs:=#[.slice none 0 0,.slice none 0 0]) (t:=28) ?hr ?_;(case hd=>rfl);(case hg=>rfl);(case hr=>first|(go_simp;done)|(go_simp;rfl));intro gb163 hg w8 hbox hb;have n0_:=Zz.mk (Kd.V_below (Kd.V_elderB (by (with_reducible repeat (first|apply Kd.V_alloc|apply Kd.V_drewN|apply Kd.V_drew));exact HO0_0.out) gb163 (Nat.le_of_eq hg.symm)) hb);have n1_:=Zz.mk (Kd.V_below (Kd.V_elderB (by (with_reducible repeat (first|apply Kd.V_alloc|apply Kd.V_drewN|apply Kd.V_drew));exact HO0_1.out) gb163 (Nat.le_of_eq hg.symm)) hb);have n2_:=Zz.mk (Zk (g:=gb162) (o:=.cells #[.slice A0_0 l0_0.length c0_0,.slice A0_1 l0_1.length c0_1] 28 (0,0)) (by (with_reducible repeat (first|refine blk_drewN ?_ _|refine Ze ?_|refine blk_alloc ?_ _));exact BK162.out) hb);have n3_:=Zz.mk (Zi (by repeat (first|(with_reducible first|exact HB.out|apply Zb|apply Za|apply Zc|refine Zd ?_ GE162.out)|exact HB.out)) hb);have n4_:=Zz.mk (hbox);have n5_:=Zz.mk ((by rw [hg];exact (Zf (by repeat (first|(with_reducible first|exact HB.out|apply Zb|apply Za|apply Zc|refine Zd ?_ GE162.out)|exact HB.out))):w.heap.size<=gb163));have n6_:=Zz.mk ((by rw [hg];exact (Zf (by repeat (first|(with_reducible first|exact HB.out|apply Zb|apply Za|apply Zc|refine Zd ?_ GE162.out)|exact HB.out))):w.heap.size<=gb163));have n7_:=Zz.mk ((by rw [hg];exact Nat.ne_of_lt (Z5 (g:=gb162) (o:=.cells #[.slice A0_0 l0_0.length c0_0,.slice A0_1 l0_1.length c0_1] 28 (0,0)) (by (with_reducible repeat (first|refine blk_drewN ?_ _|refine Ze ?_|refine blk_alloc ?_ _));exact BK162.out)):gb162≠gb163));have n8_:=Zz.mk ((by rw [hg];exact Nat.ne_of_gt (Z5 (g:=gb162) (o:=.cells #[.slice A0_0 l0_0.length c0_0,.slice A0_1 l0_1.length c0_1] 28 (0,0)) (by (with_reducible repeat (first|refine blk_drewN ?_ _|refine Ze ?_|refine blk_alloc ?_ _));exact BK162.out)):gb163≠gb162));clear HO0_0;clear HO0_1;clear BK162;clear HB;have HO0_0:=n0_;have HO0_1:=n1_;have BK162:=n2_;have HB:=n3_;have BK163:=n4_;have GW163:=n5_;have GE163:=n6_;have NB162_163:=n7_;have NB163_162:=n8_;clear n0_ n1_ n2_ n3_ n4_ n5_ n6_ n7_ n8_;clear hb hbox hg;have hnb9:=NB162_163.out;have hnc9:=NB163_162.out;have hcz10_0:w8.cell? ⟨gb162,0,none⟩=some (.slice A0_0 l0_0.length c0_0):=(Zh BK162.out 0).trans rfl;have hcz10_1:w8.cell? ⟨gb162,1,none⟩=some (.slice A0_1 l0_1.length c0_1):=(Zh BK162.out 1).trans rfl;have hfz10_0:=Zj BK162.out 0;have hfz10_1:=Zj BK162.out 1)|((with_reducible refine Zs (f:=62) rfl ?_);refine Zv (some 9) rfl rfl Try.func62 (by kernel_rfl) rfl #[.agg #[.slice A0_0 l0_0.length c0_0,.slice A0_1 l0_1.length c0_1]] rfl (by (try simp only [List.map_toArray,List.map_cons,List.map_nil]);first|done|rfl|(simp only [List.length_drop,List.length_take];rfl)) ?_;(with_reducible refine (ratio_Check.calls _ _ l0_0 _ _ l0_1 true _ ?side1 ?side2 ?side3 ?side4 A2.out).mono ?_);(case side1=>repeat (first|exact (Kd.V_reads' HO0_0.out).2.2|(with_reducible refine Kd.C_alloc ?_ _)|(with_reducible refine Kd.C_drewN ?_ _)|(with_reducible refine Kd.C_drew ?_)));(case side2=>exact (Kd.V_reads' HO0_0.out).2.1);(case side3=>repeat (first|exact (Kd.V_reads' HO0_1.out).2.2|(with_reducible refine Kd.C_alloc ?_ _)|(with_reducible refine Kd.C_drewN ?_ _)|(with_reducible refine Kd.C_drew ?_)));(case side4=>exact (Kd.V_reads' HO0_1.out).2.1);rintro e w11 ⟨rfl,hb⟩;refine ⟨_,rfl,?_⟩;have n0_:=Zz.mk (Kd.V_below (by (with_reducible repeat (first|apply Kd.V_alloc|apply Kd.V_drewN|apply Kd.V_drew));exact HO0_0.out) hb);have n1_:=Zz.mk (Kd.V_below (by (with_reducible repeat (first|apply Kd.V_alloc|apply Kd.V_drewN|apply Kd.V_drew));exact HO0_1.out) hb);have n2_:=Zz.mk (Zk (g:=gb162) (o:=.cells #[.slice A0_0 l0_0.length c0_0,.slice A0_1 l0_1.length c0_1] 28 (0,0)) (by (with_reducible repeat (first|refine blk_drewN ?_ _|refine Ze ?_|refine blk_alloc ?_ _));exact BK162.out) hb);have n3_:=Zz.mk (Zk (g:=gb163) (o:=.cells #[.slice none 0 0,.slice none 0 0] 28 (0,0)) (by (with_reducible repeat (first|refine blk_drewN ?_ _|refine Ze ?_|refine blk_alloc ?_ _));exact BK163.out) hb);have n4_:=Zz.mk (Zi (by repeat (first|(with_reducible first|exact HB.out|apply Zb|apply Za|apply Zc|refine Zd ?_ GE162.out|refine Zd ?_ GE163.out)|exact HB.out)) hb);clear HO0_0;clear HO0_1;clear BK162;clear BK163;clear HB;have HO0_0:=n0_;have HO0_1:=n1_;have BK162:=n2_;have BK163:=n3_;have HB:=n4_;clear n0_ n1_ n2_ n3_ n4_;(try clear hb);(try clear hb2);(try clear hk);(try clear hi);have hcz12_0:w11.cell? ⟨gb162,0,none⟩=some (.slice A0_0 l0_0.length c0_0):=(Zh BK162.out 0).trans rfl;have hcz12_1:w11.cell? ⟨gb162,1,none⟩=some (.slice A0_1 l0_1.length c0_1):=(Zh BK162.out 1).trans rfl;have hfz12_0:=Zj BK162.out 0;have hfz12_1:=Zj BK162.out 1)|((with_reducible refine Zs (f:=98) rfl ?_);refine Zv (some 16) rfl rfl Try.func98 (by kernel_rfl) rfl #[.slice A0_0 l0_0.length c0_0,.slice A0_1 l0_1.length c0_1] rfl (by (try simp only [List.map_toArray,List.map_cons,List.map_nil]);first|done|rfl|(simp only [List.length_drop,List.length_take];rfl)) ?_;(with_reducible refine (ratio_gcd.calls k (fun k_=>((((P0_0_ k_∨P0_1_ k_)∨w.heap.size<=k_)/\k_≠gb162)/\k_≠gb163)) _ _ l0_0 (fun k_=>((((P0_0_ k_∨P0_1_ k_)∨w.heap.size<=k_)/\k_≠gb162)/\k_≠gb163)) _ _ l0_1 t165 _ ?side1 ?side2 A4.out).mono ?_);(case side1=>exact HO0_0.out);(case side2=>exact HO0_1.out);rintro e w13 ⟨v166,rfl,ho0,hb⟩;refine ⟨_,rfl,?_⟩;have n0_:=Zz.mk (Kd.V_below (by (with_reducible repeat (first|apply Kd.V_alloc|apply Kd.V_drewN|apply Kd.V_drew));exact HO0_0.out) hb);have n1_:=Zz.mk (Kd.V_below (by (with_reducible repeat (first|apply Kd.V_alloc|apply Kd.V_drewN|apply Kd.V_drew));exact HO0_1.out) hb);have n2_:=Zz.mk (Kd.V_lower (Kd.V_mono (ok':=fun k_=>((P0_0_ k_∨P0_1_ k_)∨w.heap.size<=k_)/\k_≠gb162/\k_≠gb163) ho0 (fun k_ hk_=>⟨Or.elim hk_ (fun hs_=>Or.elim hs_ (fun hs_=>hs_.1.1) (fun hs_=>hs_.1.1)) (fun hn_=>(.inr (Nat.le_trans (Zf (by repeat (first|(with_reducible first|exact HB.out|apply Zb|apply Za|apply Zc|refine Zd ?_ GE162.out|refine Zd ?_ GE163.out)|exact HB.out))) hn_))),Or.elim hk_ (fun hs_=>Or.elim hs_ (fun hs_=>hs_.1.2) (fun hs_=>hs_.1.2)) (fun hn_=>(Kd.freshB (g:=gb162) (o:=.cells #[.slice A0_0 l0_0.length c0_0,.slice A0_1 l0_1.length c0_1] 28 (0,0)) (by (with_reducible repeat (first|refine blk_drewN ?_ _|refine Ze ?_|refine blk_alloc ?_ _));exact BK162.out) k_ hn_)),Or.elim hk_ (fun hs_=>Or.elim hs_ (fun hs_=>hs_.2) (fun hs_=>hs_.2)) (fun hn_=>(Kd.freshB (g:=gb163) (o:=.cells #[.slice none 0 0,.slice none 0 0] 28 (0,0)) (by (with_reducible repeat (first|refine blk_drewN ?_ _|refine Ze ?_|refine blk_alloc ?_ _));exact BK163.out) k_ hn_))⟩)) (Zf (by repeat (first|(with_reducible first|exact HB.out|apply Zb|apply Za|apply Zc|refine Zd ?_ GE162.out|refine Zd ?_ GE163.out)|exact HB.out))));have n3_:=Zz.mk (Zk (g:=gb162) (o:=.cells #[.slice A0_0 l0_0.length c0_0,.slice A0_1 l0_1.length c0_1] 28 (0,0)) (by (with_reducible repeat (first|refine blk_drewN ?_ _|refine Ze ?_|refine blk_alloc ?_ _));exact BK162.out) hb);have n4_:=Zz.mk (Zk (g:=gb163) (o:=.cells #[.slice none 0 0,.slice none 0 0] 28 (0,0)) (by (with_reducible repeat (first|refine blk_drewN ?_ _|refine Ze ?_|refine blk_alloc ?_ _));exact BK163.out) hb);have n5_:=Zz.mk (Zi (by repeat (first|(with_reducible first|exact HB.out|apply Zb|apply Za|apply Zc|refine Zd ?_ GE162.out|refine Zd ?_ GE163.out)|exact HB.out)) hb);clear HO0_0;clear HO0_1;clear BK162;clear BK163;clear HB;have HO0_0:=n0_;have HO0_1:=n1_;have HO167:=n2_;have BK162:=n3_;have BK163:=n4_;have HB:=n5_;clear n0_ n1_ n2_ n3_ n4_ n5_;(try clear hb);(try clear hb2);(try clear hk);(try clear hi);(try clear ho0);have hcz14_0:w13.cell? ⟨gb162,0,none⟩=some (.slice A0_0 l0_0.length c0_0):=(Zh BK162.out 0).trans rfl;have hcz14_1:w13.cell? ⟨gb162,1,none⟩=some (.slice A0_1 l0_1.length c0_1):=(Zh BK162.out 1).trans rfl;have hfz14_0:=Zj BK162.out 0;have hfz14_1:=Zj BK162.out 1;obtain ⟨Ao15,co15,eo15⟩:=Kd.V_slice HO167.out;subst eo15)|((with_reducible refine Zs (f:=99) rfl ?_);refine Zv (some 21) rfl rfl Try.func99 (by kernel_rfl) rfl #[.slice A0_0 l0_0.length c0_0,.slice Ao15 t165.length co15] rfl (by (try simp only [List.map_toArray,List.map_cons,List.map_nil]);first|done|rfl|(simp only [List.length_drop,List.length_take];rfl)) ?_;(with_reducible refine (ratio_quo.calls k (fun k_=>((((P0_0_ k_∨P0_1_ k_)∨w.heap.size<=k_)/\k_≠gb162)/\k_≠gb163)) _ _ l0_0 _ _ t165 t168 t171 _ ?side1 ?side2 ?side3 A5.out).mono ?_);(case side1=>exact HO0_0.out);(case side2=>repeat (first|exact (Kd.V_reads' HO167.out).2.2|(with_reducible refine Kd.C_alloc ?_ _)|(with_reducible refine Kd.C_drewN ?_ _)|(with_reducible refine Kd.C_drew ?_)));(case side3=>exact (Kd.V_reads' HO167.out).2.1);rintro e w16 ⟨v169,v172,rfl,ho0,ho1,hb⟩;refine ⟨_,rfl,?_⟩;have n0_:=Zz.mk (Kd.V_below (by (with_reducible repeat (first|apply Kd.V_alloc|apply Kd.V_drewN|apply Kd.V_drew));exact HO0_0.out) hb);have n1_:=Zz.mk (Kd.V_below (by (with_reducible repeat (first|apply Kd.V_alloc|apply Kd.V_drewN|apply Kd.V_drew));exact HO0_1.out) hb);have n2_:=Zz.mk (Kd.V_below (by (with_reducible repeat (first|apply Kd.V_alloc|apply Kd.V_drewN|apply Kd.V_drew));exact HO167.out) hb);have n3_:=Zz.mk (Kd.V_lower (Kd.V_mono (ok':=fun k_=>((P0_0_ k_∨P0_1_ k_)∨w.heap.size<=k_)/\k_≠gb162/\k_≠gb163) ho0 (fun k_ hk_=>⟨Or.elim hk_ (fun hs_=>hs_.1.1) (fun hn_=>(.inr (Nat.le_trans (Zf (by repeat (first|(with_reducible first|exact HB.out|apply Zb|apply Za|apply Zc|refine Zd ?_ GE162.out|refine Zd ?_ GE163.out)|exact HB.out))) hn_))),Or.elim hk_ (fun hs_=>hs_.1.2) (fun hn_=>(Kd.freshB (g:=gb162) (o:=.cells #[.slice A0_0 l0_0.length c0_0,.slice A0_1 l0_1.length c0_1] 28 (0,0)) (by (with_reducible repeat (first|refine blk_drewN ?_ _|refine Ze ?_|refine blk_alloc ?_ _));exact BK162.out) k_ hn_)),Or.elim hk_ (fun hs_=>hs_.2) (fun hn_=>(Kd.freshB (g:=gb163) (o:=.cells #[.slice none 0 0,.slice none 0 0] 28 (0,0)) (by (with_reducible repeat (first|refine blk_drewN ?_ _|refine Ze ?_|refine blk_alloc ?_ _));exact BK163.out) k_ hn_))⟩)) (Zf (by repeat (first|(with_reducible first|exact HB.out|apply Zb|apply Za|apply Zc|refine Zd ?_ GE162.out|refine Zd ?_ GE163.out)|exact HB.out))));have n4_:=Zz.mk (Kd.V_lower (Kd.V_mono (ok':=fun k_=>((P0_0_ k_∨P0_1_ k_)∨w.heap.size<=k_)/\k_≠gb162/\k_≠gb163) ho1 (fun k_ hk_=>⟨Or.elim hk_ (fun hs_=>hs_.1.1) (fun hn_=>(.inr (Nat.le_trans (Zf (by repeat (first|(with_reducible first|exact HB.out|apply Zb|apply Za|apply Zc|refine Zd ?_ GE162.out|refine Zd ?_ GE163.out)|exact HB.out))) hn_))),Or.elim hk_ (fun hs_=>hs_.1.2) (fun hn_=>(Kd.freshB (g:=gb162) (o:=.cells #[.slice A0_0 l0_0.length c0_0,.slice A0_1 l0_1.length c0_1] 28 (0,0)) (by (with_reducible repeat (first|refine blk_drewN ?_ _|refine Ze ?_|refine blk_alloc ?_ _));exact BK162.out) k_ hn_)),Or.elim hk_ (fun hs_=>hs_.2) (fun hn_=>(Kd.freshB (g:=gb163) (o:=.cells #[.slice none 0 0,.slice none 0 0] 28 (0,0)) (by (with_reducible repeat (first|refine blk_drewN ?_ _|refine Ze ?_|refine blk_alloc ?_ _));exact BK163.out) k_ hn_))⟩)) (Zf (by repeat (first|(with_reducible first|exact HB.out|apply Zb|apply Za|apply Zc|refine Zd ?_ GE162.out|refine Zd ?_ GE163.out)|exact HB.out))));have n5_:=Zz.mk (Zk (g:=gb162) (o:=.cells #[.slice A0_0 l0_0.length c0_0,.slice A0_1 l0_1.length c0_1] 28 (0,0)) (by (with_reducible repeat (first|refine blk_drewN ?_ _|refine Ze ?_|refine blk_alloc ?_ _));exact BK162.out) hb);have n6_:=Zz.mk (Zk (g:=gb163) (o:=.cells #[.slice none 0 0,.slice none 0 0] 28 (0,0)) (by (with_reducible repeat (first|refine blk_drewN ?_ _|refine Ze ?_|refine blk_alloc ?_ _));exact BK163.out) hb);have n7_:=Zz.mk (Zi (by repeat (first|(with_reducible first|exact HB.out|apply Zb|apply Za|apply Zc|refine Zd ?_ GE162.out|refine Zd ?_ GE163.out)|exact HB.out)) hb);clear HO0_0;clear HO0_1;clear HO167;clear BK162;clear BK163;clear HB;have HO0_0:=n0_;have HO0_1:=n1_;have HO167:=n2_;have HO170:=n3_;have HO173:=n4_;have BK162:=n5_;have BK163:=n6_;have HB:=n7_;clear n0_ n1_ n2_ n3_ n4_ n5_ n6_ n7_;(try clear hb);(try clear hb2);(try clear hk);(try clear hi);(try clear ho0);(try clear ho1);have hcz17_0:w16.cell? ⟨gb162,0,none⟩=some (.slice A0_0 l0_0.length c0_0):=(Zh BK162.out 0).trans rfl;have hcz17_1:w16.cell? ⟨gb162,1,none⟩=some (.slice A0_1 l0_1.length c0_1):=(Zh BK162.out 1).trans rfl;have hfz17_0:=Zj BK162.out 0;have hfz17_1:=Zj BK162.out 1;(try clear A5))|((with_reducible refine Zs (f:=99) rfl ?_);refine Zv (some 28) rfl rfl Try.func99 (by kernel_rfl) rfl #[.slice A0_1 l0_1.length c0_1,.slice Ao15 t165.length co15] rfl (by (try simp only [List.map_toArray,List.map_cons,List.map_nil]);first|done|rfl|(simp only [List.length_drop,List.length_take];rfl)) ?_;(with_reducible refine (ratio_quo.calls k (fun k_=>((((P0_0_ k_∨P0_1_ k_)∨w.heap.size<=k_)/\k_≠gb162)/\k_≠gb163)) _ _ l0_1 _ _ t165 t174 t177 _ ?side1 ?side2 ?side3 A6.out).mono ?_);(case side1=>exact HO0_1.out);(case side2=>repeat (first|exact (Kd.V_reads' HO167.out).2.2|(with_reducible refine Kd.C_alloc ?_ _)|(with_reducible refine Kd.C_drewN ?_ _)|(with_reducible refine Kd.C_drew ?_)));(case side3=>exact (Kd.V_reads' HO167.out).2.1);rintro e w18 ⟨v175,v178,rfl,ho0,ho1,hb⟩;refine ⟨_,rfl,?_⟩;have n0_:=Zz.mk (Kd.V_below (by (with_reducible repeat (first|apply Kd.V_alloc|apply Kd.V_drewN|apply Kd.V_drew));exact HO0_0.out) hb);have n1_:=Zz.mk (Kd.V_below (by (with_reducible repeat (first|apply Kd.V_alloc|apply Kd.V_drewN|apply Kd.V_drew));exact HO0_1.out) hb);have n2_:=Zz.mk (Kd.V_below (by (with_reducible repeat (first|apply Kd.V_alloc|apply Kd.V_drewN|apply Kd.V_drew));exact HO167.out) hb);have n3_:=Zz.mk (Kd.V_below (by (with_reducible repeat (first|apply Kd.V_alloc|apply Kd.V_drewN|apply Kd.V_drew));exact HO170.out) hb);have n4_:=Zz.mk (Kd.V_below (by (with_reducible repeat (first|apply Kd.V_alloc|apply Kd.V_drewN|apply Kd.V_drew));exact HO173.out) hb);have n5_:=Zz.mk (Kd.V_lower (Kd.V_mono (ok':=fun k_=>((P0_0_ k_∨P0_1_ k_)∨w.heap.size<=k_)/\k_≠gb162/\k_≠gb163) ho0 (fun k_ hk_=>⟨Or.elim hk_ (fun hs_=>hs_.1.1) (fun hn_=>(.inr (Nat.le_trans (Zf (by repeat (first|(with_reducible first|exact HB.out|apply Zb|apply Za|apply Zc|refine Zd ?_ GE162.out|refine Zd ?_ GE163.out)|exact HB.out))) hn_))),Or.elim hk_ (fun hs_=>hs_.1.2) (fun hn_=>(Kd.freshB (g:=gb162) (o:=.cells #[.slice A0_0 l0_0.length c0_0,.slice A0_1 l0_1.length c0_1] 28 (0,0)) (by (with_reducible repeat (first|refine blk_drewN ?_ _|refine Ze ?_|refine blk_alloc ?_ _));exact BK162.out) k_ hn_)),Or.elim hk_ (fun hs_=>hs_.2) (fun hn_=>(Kd.freshB (g:=gb163) (o:=.cells #[.slice none 0 0,.slice none 0 0] 28 (0,0)) (by (with_reducible repeat (first|refine blk_drewN ?_ _|refine Ze ?_|refine blk_alloc ?_ _));exact BK163.out) k_ hn_))⟩)) (Zf (by repeat (first|(with_reducible first|exact HB.out|apply Zb|apply Za|apply Zc|refine Zd ?_ GE162.out|refine Zd ?_ GE163.out)|exact HB.out))));have n6_:=Zz.mk (Kd.V_lower (Kd.V_mono (ok':=fun k_=>((P0_0_ k_∨P0_1_ k_)∨w.heap.size<=k_)/\k_≠gb162/\k_≠gb163) ho1 (fun k_ hk_=>⟨Or.elim hk_ (fun hs_=>hs_.1.1) (fun hn_=>(.inr (Nat.le_trans (Zf (by repeat (first|(with_reducible first|exact HB.out|apply Zb|apply Za|apply Zc|refine Zd ?_ GE162.out|refine Zd ?_ GE163.out)|exact HB.out))) hn_))),Or.elim hk_ (fun hs_=>hs_.1.2) (fun hn_=>(Kd.freshB (g:=gb162) (o:=.cells #[.slice A0_0 l0_0.length c0_0,.slice A0_1 l0_1.length c0_1] 28 (0,0)) (by (with_reducible repeat (first|refine blk_drewN ?_ _|refine Ze ?_|refine blk_alloc ?_ _));exact BK162.out) k_ hn_)),Or.elim hk_ (fun hs_=>hs_.2) (fun hn_=>(Kd.freshB (g:=gb163) (o:=.cells #[.slice none 0 0,.slice none 0 0] 28 (0,0)) (by (with_reducible repeat (first|refine blk_drewN ?_ _|refine Ze ?_|refine blk_alloc ?_ _));exact BK163.out) k_ hn_))⟩)) (Zf (by repeat (first|(with_reducible first|exact HB.out|apply Zb|apply Za|apply Zc|refine Zd ?_ GE162.out|refine Zd ?_ GE163.out)|exact HB.out))));have n7_:=Zz.mk (Zk (g:=gb162) (o:=.cells #[.slice A0_0 l0_0.length c0_0,.slice A0_1 l0_1.length c0_1] 28 (0,0)) (by (with_reducible repeat (first|refine blk_drewN ?_ _|refine Ze ?_|refine blk_alloc ?_ _));exact BK162.out) hb);have n8_:=Zz.mk (Zk (g:=gb163) (o:=.cells #[.slice none 0 0,.slice none 0 0] 28 (0,0)) (by (with_reducible repeat (first|refine blk_drewN ?_ _|refine Ze ?_|refine blk_alloc ?_ _));exact BK163.out) hb);have n9_:=Zz.mk (Zi (by repeat (first|(with_reducible first|exact HB.out|apply Zb|apply Za|apply Zc|refine Zd ?_ GE162.out|refine Zd ?_ GE163.out)|exact HB.out)) hb);clear HO0_0;clear HO0_1;clear HO167;clear HO170;clear HO173;clear BK162;clear BK163;clear HB;have HO0_0:=n0_;have HO0_1:=n1_;have HO167:=n2_;have HO170:=n3_;have HO173:=n4_;have HO176:=n5_;have HO179:=n6_;have BK162:=n7_;have BK163:=n8_;have HB:=n9_;clear n0_ n1_ n2_ n3_ n4_ n5_ n6_ n7_ n8_ n9_;(try clear hb);(try clear hb2);(try clear hk);(try clear hi);(try clear ho0);(try clear ho1);obtain ⟨Ao19,co19,eo19⟩:=Kd.V_slice HO176.out;subst eo19;obtain ⟨Ao20,co20,eo20⟩:=Kd.V_slice HO170.out;subst eo20;have hcz21_0:w18.cell? ⟨gb163,0,none⟩=some (.slice none 0 0):=(Zh BK163.out 0).trans rfl;have hcz21_1:w18.cell? ⟨gb163,1,none⟩=some (.slice none 0 0):=(Zh BK163.out 1).trans rfl;have hfz21_0:=Zj BK163.out 0;have hfz21_1:=Zj BK163.out 1;(try clear A6)))
  refine bodyPost_ret (results_cell_row rfl _ _ gb163 28 #[.slice Ao20 t168.length co20,.slice Ao19 t174.length co19] (0,0) _ rfl (by (with_reducible repeat (first|refine blk_drewN ?_ _|refine Ze ?_|refine blk_alloc ?_ _));refine Zx (cs:=#[.slice Ao20 t168.length co20,.slice none 0 0]) ?_ 1 _ rfl;(with_reducible repeat (first|refine blk_drewN ?_ _|refine Ze ?_|refine blk_alloc ?_ _));refine Zx (cs:=#[.slice none 0 0,.slice none 0 0]) ?_ 0 _ rfl;(with_reducible repeat (first|refine blk_drewN ?_ _|refine Ze ?_|refine blk_alloc ?_ _));exact BK163.out) Try.underlying28 rfl (by kernel_rfl)) rfl ?_
  exact ⟨_,_,by first|rfl|(simp [Zm,Zl]<;>rfl)|(simp [*,Zm,Zl]<;>rfl),by (with_reducible repeat (first|apply Kd.V_alloc|apply Kd.V_drewN|apply Kd.V_drew));exact Kd.V_mono (Kd.V_far (p:=⟨gb163,1,none⟩) (Kd.V_far (p:=⟨gb163,0,none⟩) (Kd.V_mono HO170.out (fun k_ hk=>(⟨hk,hk.2.2⟩:_/\k_≠gb163))) (fun _ hk=>hk.2) (.slice Ao20 t168.length co20)) (fun _ hk=>hk.2) (.slice Ao19 t174.length co19)) (fun _ hk=>hk.1.1),by (with_reducible repeat (first|apply Kd.V_alloc|apply Kd.V_drewN|apply Kd.V_drew));exact Kd.V_mono (Kd.V_far (p:=⟨gb163,1,none⟩) (Kd.V_far (p:=⟨gb163,0,none⟩) (Kd.V_mono HO176.out (fun k_ hk=>(⟨hk,hk.2.2⟩:_/\k_≠gb163))) (fun _ hk=>hk.2) (.slice Ao20 t168.length co20)) (fun _ hk=>hk.2) (.slice Ao19 t174.length co19)) (fun _ hk=>hk.1.1),by repeat (first|(with_reducible first|exact HB.out|apply Zb|apply Za|apply Zc|refine Zd ?_ GE162.out|refine Zd ?_ GE163.out)|exact HB.out)⟩
 ·replace c3:=Bool.eq_false_iff.mpr c3
  subst c3
  have H1:(some (l0_0,l0_1))=some (r1,r2):=by rw [if_neg (show ¬ (false=true) by decide)] at H;exact H
  clear H
  have H:=H1
  clear H1
  simp only [Option.some.injEq,Prod.mk.injEq] at H
  obtain ⟨rfl,rfl⟩:=H
  go_enter Try.func63,Try.ntmps63
  go_wp2_with (first|((with_reducible refine Zt (N:=1) rfl ?_);refine Zu ?hg (N:=1) ?hd (cs:=#[.slice A0_0 l0_0.length c0_0,.slice A0_1 l0_1.length c0_1]) (t:=28) ?hr ?_;(case hd=>rfl);(case hg=>rfl);(case hr=>first|(go_simp;done)|(go_simp;rfl));intro gb162 hg w22 hbox hb;have n0_:=Zz.mk (Kd.V_below (Kd.V_elderB (by (with_reducible repeat (first|apply Kd.V_alloc|apply Kd.V_drewN|apply Kd.V_drew));exact HO0_0.out) gb162 (Nat.le_of_eq hg.symm)) hb);have n1_:=Zz.mk (Kd.V_below (Kd.V_elderB (by (with_reducible repeat (first|apply Kd.V_alloc|apply Kd.V_drewN|apply Kd.V_drew));exact HO0_1.out) gb162 (Nat.le_of_eq hg.symm)) hb);have n2_:=Zz.mk (Zi (by repeat (first|(with_reducible first|exact HB.out|apply Zb|apply Za|apply Zc)|exact HB.out)) hb);have n3_:=Zz.mk (hbox);have n4_:=Zz.mk ((by rw [hg];exact (Zf (by repeat (first|(with_reducible first|exact HB.out|apply Zb|apply Za|apply Zc)|exact HB.out))):w.heap.size<=gb162));have n5_:=Zz.mk ((by rw [hg];exact (Zf (by repeat (first|(with_reducible first|exact HB.out|apply Zb|apply Za|apply Zc)|exact HB.out))):w.heap.size<=gb162));clear HO0_0;clear HO0_1;clear HB;have HO0_0:=n0_;have HO0_1:=n1_;have HB:=n2_;have BK162:=n3_;have GW162:=n4_;have GE162:=n5_;clear n0_ n1_ n2_ n3_ n4_ n5_;clear hb hbox hg)|((with_reducible refine Zt (N:=2) rfl ?_);refine Zu ?hg (N:=2) ?hd (cs:=#[.slice none 0 0,.slice none 0 0]) (t:=28) ?hr ?_;(case hd=>rfl);(case hg=>rfl);(case hr=>first|(go_simp;done)|(go_simp;rfl));intro gb163 hg w23 hbox hb;have n0_:=Zz.mk (Kd.V_below (Kd.V_elderB (by (with_reducible repeat (first|apply Kd.V_alloc|apply Kd.V_drewN|apply Kd.V_drew));exact HO0_0.out) gb163 (Nat.le_of_eq hg.symm)) hb);have n1_:=Zz.mk (Kd.V_below (Kd.V_elderB (by (with_reducible repeat (first|apply Kd.V_alloc|apply Kd.V_drewN|apply Kd.V_drew));exact HO0_1.out) gb163 (Nat.le_of_eq hg.symm)) hb);have n2_:=Zz.mk (Zk (g:=gb162) (o:=.cells #[.slice A0_0 l0_0.length c0_0,.slice A0_1 l0_1.length c0_1] 28 (0,0)) (by (with_reducible repeat (first|refine blk_drewN ?_ _|refine Ze ?_|refine blk_alloc ?_ _));exact BK162.out) hb);have n3_:=Zz.mk (Zi (by repeat (first|(with_reducible first|exact HB.out|apply Zb|apply Za|apply Zc|refine Zd ?_ GE162.out)|exact HB.out)) hb);have n4_:=Zz.mk (hbox);have n5_:=Zz.mk ((by rw [hg];exact (Zf (by repeat (first|(with_reducible first|exact HB.out|apply Zb|apply Za|apply Zc|refine Zd ?_ GE162.out)|exact HB.out))):w.heap.size<=gb163));have n6_:=Zz.mk ((by rw [hg];exact (Zf (by repeat (first|(with_reducible first|exact HB.out|apply Zb|apply Za|apply Zc|refine Zd ?_ GE162.out)|exact HB.out))):w.heap.size<=gb163));have n7_:=Zz.mk ((by rw [hg];exact Nat.ne_of_lt (Z5 (g:=gb162) (o:=.cells #[.slice A0_0 l0_0.length c0_0,.slice A0_1 l0_1.length c0_1] 28 (0,0)) (by (with_reducible repeat (first|refine blk_drewN ?_ _|refine Ze ?_|refine blk_alloc ?_ _));exact BK162.out)):gb162≠gb163));have n8_:=Zz.mk ((by rw [hg];exact Nat.ne_of_gt (Z5 (g:=gb162) (o:=.cells #[.slice A0_0 l0_0.length c0_0,.slice A0_1 l0_1.length c0_1] 28 (0,0)) (by (with_reducible repeat (first|refine blk_drewN ?_ _|refine Ze ?_|refine blk_alloc ?_ _));exact BK162.out)):gb163≠gb162));clear HO0_0;clear HO0_1;clear BK162;clear HB;have HO0_0:=n0_;have HO0_1:=n1_;have BK162:=n2_;have HB:=n3_;have BK163:=n4_;have GW163:=n5_;have GE163:=n6_;have NB162_163:=n7_;have NB163_162:=n8_;clear n0_ n1_ n2_ n3_ n4_ n5_ n6_ n7_ n8_;clear hb hbox hg;have hnb24:=NB162_163.out;have hnc24:=NB163_162.out;have hcz25_0:w23.cell? ⟨gb162,0,none⟩=some (.slice A0_0 l0_0.length c0_0):=(Zh BK162.out 0).trans rfl;have hcz25_1:w23.cell? ⟨gb162,1,none⟩=some (.slice A0_1 l0_1.length c0_1):=(Zh BK162.out 1).trans rfl;have hfz25_0:=Zj BK162.out 0;have hfz25_1:=Zj BK162.out 1)|((with_reducible refine Zs (f:=62) rfl ?_);refine Zv (some 9) rfl rfl Try.func62 (by kernel_rfl) rfl #[.agg #[.slice A0_0 l0_0.length c0_0,.slice A0_1 l0_1.length c0_1]] rfl (by (try simp only [List.map_toArray,List.map_cons,List.map_nil]);first|done|rfl|(simp only [List.length_drop,List.length_take];rfl)) ?_;(with_reducible refine (ratio_Check.calls _ _ l0_0 _ _ l0_1 false _ ?side1 ?side2 ?side3 ?side4 A2.out).mono ?_);(case side1=>repeat (first|exact (Kd.V_reads' HO0_0.out).2.2|(with_reducible refine Kd.C_alloc ?_ _)|(with_reducible refine Kd.C_drewN ?_ _)|(with_reducible refine Kd.C_drew ?_)));(case side2=>exact (Kd.V_reads' HO0_0.out).2.1);(case side3=>repeat (first|exact (Kd.V_reads' HO0_1.out).2.2|(with_reducible refine Kd.C_alloc ?_ _)|(with_reducible refine Kd.C_drewN ?_ _)|(with_reducible refine Kd.C_drew ?_)));(case side4=>exact (Kd.V_reads' HO0_1.out).2.1);rintro e w26 ⟨rfl,hb⟩;refine ⟨_,rfl,?_⟩;have n0_:=Zz.mk (Kd.V_below (by (with_reducible repeat (first|apply Kd.V_alloc|apply Kd.V_drewN|apply Kd.V_drew));exact HO0_0.out) hb);have n1_:=Zz.mk (Kd.V_below (by (with_reducible repeat (first|apply Kd.V_alloc|apply Kd.V_drewN|apply Kd.V_drew));exact HO0_1.out) hb);have n2_:=Zz.mk (Zk (g:=gb162) (o:=.cells #[.slice A0_0 l0_0.length c0_0,.slice A0_1 l0_1.length c0_1] 28 (0,0)) (by (with_reducible repeat (first|refine blk_drewN ?_ _|refine Ze ?_|refine blk_alloc ?_ _));exact BK162.out) hb);have n3_:=Zz.mk (Zk (g:=gb163) (o:=.cells #[.slice none 0 0,.slice none 0 0] 28 (0,0)) (by (with_reducible repeat (first|refine blk_drewN ?_ _|refine Ze ?_|refine blk_alloc ?_ _));exact BK163.out) hb);have n4_:=Zz.mk (Zi (by repeat (first|(with_reducible first|exact HB.out|apply Zb|apply Za|apply Zc|refine Zd ?_ GE162.out|refine Zd ?_ GE163.out)|exact HB.out)) hb);clear HO0_0;clear HO0_1;clear BK162;clear BK163;clear HB;have HO0_0:=n0_;have HO0_1:=n1_;have BK162:=n2_;have BK163:=n3_;have HB:=n4_;clear n0_ n1_ n2_ n3_ n4_;(try clear hb);(try clear hb2);(try clear hk);(try clear hi);have hcz27_0:w26.cell? ⟨gb162,0,none⟩=some (.slice A0_0 l0_0.length c0_0):=(Zh BK162.out 0).trans rfl;have hcz27_1:w26.cell? ⟨gb162,1,none⟩=some (.slice A0_1 l0_1.length c0_1):=(Zh BK162.out 1).trans rfl;have hfz27_0:=Zj BK162.out 0;have hfz27_1:=Zj BK162.out 1;have hcz28_0:w26.cell? ⟨gb163,0,none⟩=some (.slice none 0 0):=(Zh BK163.out 0).trans rfl;have hcz28_1:w26.cell? ⟨gb163,1,none⟩=some (.slice none 0 0):=(Zh BK163.out 1).trans rfl;have hfz28_0:=Zj BK163.out 0;have hfz28_1:=Zj BK163.out 1))
  refine bodyPost_ret (results_cell_row rfl _ _ gb163 28 #[.slice A0_0 l0_0.length c0_0,.slice A0_1 l0_1.length c0_1] (0,0) _ rfl (by (with_reducible repeat (first|refine blk_drewN ?_ _|refine Ze ?_|refine blk_alloc ?_ _));refine Zx (cs:=#[.slice A0_0 l0_0.length c0_0,.slice none 0 0]) ?_ 1 _ rfl;(with_reducible repeat (first|refine blk_drewN ?_ _|refine Ze ?_|refine blk_alloc ?_ _));refine Zx (cs:=#[.slice none 0 0,.slice none 0 0]) ?_ 0 _ rfl;(with_reducible repeat (first|refine blk_drewN ?_ _|refine Ze ?_|refine blk_alloc ?_ _));exact BK163.out) Try.underlying28 rfl (by kernel_rfl)) rfl ?_
  exact ⟨_,_,by first|rfl|(simp [Zm,Zl]<;>rfl)|(simp [*,Zm,Zl]<;>rfl),by (with_reducible repeat (first|apply Kd.V_alloc|apply Kd.V_drewN|apply Kd.V_drew));exact Kd.V_mono (Kd.V_far (p:=⟨gb163,1,none⟩) (Kd.V_far (p:=⟨gb163,0,none⟩) (Kd.V_mono HO0_0.out (fun k_ hk=>(⟨hk,hk.2⟩:_/\k_≠gb163))) (fun _ hk=>hk.2) (.slice A0_0 l0_0.length c0_0)) (fun _ hk=>hk.2) (.slice A0_1 l0_1.length c0_1)) (fun _ hk=>hk.1.1.1),by (with_reducible repeat (first|apply Kd.V_alloc|apply Kd.V_drewN|apply Kd.V_drew));exact Kd.V_mono (Kd.V_far (p:=⟨gb163,1,none⟩) (Kd.V_far (p:=⟨gb163,0,none⟩) (Kd.V_mono HO0_1.out (fun k_ hk=>(⟨hk,hk.2⟩:_/\k_≠gb163))) (fun _ hk=>hk.2) (.slice A0_0 l0_0.length c0_0)) (fun _ hk=>hk.2) (.slice A0_1 l0_1.length c0_1)) (fun _ hk=>hk.1.1.1),by repeat (first|(with_reducible first|exact HB.out|apply Zb|apply Za|apply Zc|refine Zd ?_ GE162.out|refine Zd ?_ GE163.out)|exact HB.out)⟩
end Go.Proofs.Ytfldklimlcnnnaa.PHq
end

section
namespace Go.Proofs.Ytfldklimlcnnnaa.PHq
open Go.RowKit YtfldklimlcnnnaaW.PrintWords YtfldklimlcnnnaaW.PrintLast YtfldklimlcnnnaaW.PrintMore MWords
attribute [local go_sem] max2_int min2_int max_two min_two max_three min_three max_four min_four   -- for this text's walks alone
def ratio_Sub.f (k:Nat) (l0_0:List Int) (l0_1:List Int) (l1_0:List Int) (l1_1:List Int):Option (List Int × List Int × Int):=(nat_Mul.f l0_0 l1_1).bind fun t209=>((nat_Mul.f l1_0 l0_1).bind fun t212=>((nat_Sub.f k t209 t212).bind fun bt215=>(if bt215.2=0 then ((nat_Mul.f l0_1 l1_1).bind fun t219=>((ratio_Least.f k bt215.1 t219).bind fun bt222=>(some (bt222.1,bt222.2,0)))) else (some (([]:List Int),([]:List Int),bt215.2)))))
def ratio_Sub.T1:Bool × List (List Nat × List Nat):=(true,[([],[]),([0],[0]),([],[]),([2],[2]),([1,3],[1,3]),([],[]),([5],[5]),([],[]),([7],[7]),([6,8,4],[6,8]),([4,9,9],[4,9]),([10],[10]),([11],[11]),([11],[11]),([12,10,0,1,2,3,4,5,6,7,8,9,10,11,12],[12]),([13,14,0,1,2,3,4,5,6,7,8,9,10,11,12,13,14],[13])])
def ratio_Sub.B1:List Nat:=[0,1,0,4,15,0,32,0,128,511,1023,2047,4095,4095,8191,32767]
theorem ratio_Sub.tab1:rtab .any (opsOf Try.f73 1)=ratio_Sub.T1:=by kernel_rfl
theorem ratio_Sub.bits1:waitsOk ratio_Sub.T1.2 ratio_Sub.B1=true:=by kernel_rfl
end Go.Proofs.Ytfldklimlcnnnaa.PHq
end

section
namespace Go.Proofs.Ytfldklimlcnnnaa.PHq
open Go.RowKit YtfldklimlcnnnaaW.PrintWords YtfldklimlcnnnaaW.PrintLast YtfldklimlcnnnaaW.PrintMore MWords
attribute [local go_sem] max2_int min2_int max_two min_two max_three min_three max_four min_four   -- for this text's walks alone
def ratio_Cmp.f (k:Nat) (l0_0:List Int) (l0_1:List Int) (l1_0:List Int) (l1_1:List Int):Option (Int):=(nat_Mul.f l0_0 l1_1).bind fun t251=>((nat_Mul.f l1_0 l0_1).bind fun t254=>((nat_Cmp.f k t251 t254).bind fun t257=>(some t257)))
def ratio_Cmp.T1:Bool × List (List Nat × List Nat):=(true,[([],[]),([0],[0]),([],[]),([2],[2]),([1,3],[1,3]),([],[]),([5],[5]),([],[]),([7],[7]),([6,8,4],[6,8]),([4,9,9],[4,9]),([10,10,0,1,2,3,4,5,6,7,8,9,10],[10])])
def ratio_Cmp.B1:List Nat:=[0,1,0,4,15,0,32,0,128,511,1023,2047]
theorem ratio_Cmp.tab1:rtab .any (opsOf Try.f106 1)=ratio_Cmp.T1:=by kernel_rfl
theorem ratio_Cmp.bits1:waitsOk ratio_Cmp.T1.2 ratio_Cmp.B1=true:=by kernel_rfl
set_option maxHeartbeats 8000000 in
set_option maxRecDepth 100000 in
theorem ratio_Cmp.calls (k:Nat) (A0_0:Option Addr) (c0_0:Nat) (l0_0:List Int) (A0_1:Option Addr) (c0_1:Nat) (l0_1:List Int) (A1_0:Option Addr) (c1_0:Nat) (l1_0:List Int) (A1_1:Option Addr) (c1_1:Nat) (l1_1:List Int) (r:Int) (w:World) (hr0_0:Kd.C (Kd.int .u32) w A0_0 l0_0.length l0_0) (hc0_0:l0_0.length<=c0_0) (hr0_1:Kd.C (Kd.int .u32) w A0_1 l0_1.length l0_1) (hc0_1:l0_1.length<=c0_1) (hr1_0:Kd.C (Kd.int .u32) w A1_0 l1_0.length l1_0) (hc1_0:l1_0.length<=c1_0) (hr1_1:Kd.C (Kd.int .u32) w A1_1 l1_1.length l1_1) (hc1_1:l1_1.length<=c1_1) (h:ratio_Cmp.f k l0_0 l0_1 l1_0 l1_1=some r) :
  Calls Try.prog 106 #[.agg #[.slice A0_0 l0_0.length c0_0,.slice A0_1 l0_1.length c0_1],.agg #[.slice A1_0 l1_0.length c1_0,.slice A1_1 l1_1.length c1_1]] w fun e w'=>e=.returned (.int .i64 r)/\Below w.heap.size w w':=by
 have hu28:=Try.underlying28
 have HR0_0:=Zz.mk hr0_0
 have HC0_0:=Zz.mk hc0_0
 clear hr0_0 hc0_0
 have HR0_1:=Zz.mk hr0_1
 have HC0_1:=Zz.mk hc0_1
 clear hr0_1 hc0_1
 have HR1_0:=Zz.mk hr1_0
 have HC1_0:=Zz.mk hc1_0
 clear hr1_0 hc1_0
 have HR1_1:=Zz.mk hr1_1
 have HC1_1:=Zz.mk hc1_1
 clear hr1_1 hc1_1
 have HB:=Zz.mk (Below.refl w.heap.size w)
 have H:((nat_Mul.f l0_0 l1_1).bind fun t251=>((nat_Mul.f l1_0 l0_1).bind fun t254=>((nat_Cmp.f k t251 t254).bind fun t257=>(some t257))))=some r:=h
 clear h
 replace H:=Option.bind_eq_some_iff.mp H
 obtain ⟨t251,A30,H⟩:=H
 replace H:((nat_Mul.f l1_0 l0_1).bind fun t254=>((nat_Cmp.f k t251 t254).bind fun t257=>(some t257)))=some r:=H
 have A3:=Zz.mk A30
 clear A30
 replace H:=Option.bind_eq_some_iff.mp H
 obtain ⟨t254,A40,H⟩:=H
 replace H:((nat_Cmp.f k t251 t254).bind fun t257=>(some t257))=some r:=H
 have A4:=Zz.mk A40
 clear A40
 replace H:=Option.bind_eq_some_iff.mp H
 obtain ⟨t257,A50,H⟩:=H
 replace H:(some t257)=some r:=H
 have A5:=Zz.mk A50
 clear A50
 obtain rfl:=Option.some.inj H
 go_enter Try.func106,Try.ntmps106
 try go_wp2_with (first|((with_reducible refine Zt (N:=2) rfl ?_);refine Zu ?hg (N:=2) ?hd (cs:=#[.slice A0_0 l0_0.length c0_0,.slice A0_1 l0_1.length c0_1]) (t:=28) ?hr ?_;(case hd=>rfl);(case hg=>rfl);(case hr=>first|(go_simp;done)|(go_simp;rfl));intro gb249 hg w6 hbox hb;have n0_:=Zz.mk (Zi (by repeat (first|(with_reducible first|exact HB.out|apply Zb|apply Za|apply Zc)|exact HB.out)) hb);have n1_:=Zz.mk (hbox);have n2_:=Zz.mk ((by rw [hg];exact (Zf (by repeat (first|(with_reducible first|exact HB.out|apply Zb|apply Za|apply Zc)|exact HB.out))):w.heap.size<=gb249));have n3_:=Zz.mk ((by rw [hg];exact (Zf (by repeat (first|(with_reducible first|exact HB.out|apply Zb|apply Za|apply Zc)|exact HB.out))):w.heap.size<=gb249));clear HB;have HB:=n0_;have BK249:=n1_;have GW249:=n2_;have GE249:=n3_;clear n0_ n1_ n2_ n3_;clear hb hbox hg)|((with_reducible refine Zt (N:=3) rfl ?_);refine Zu ?hg (N:=3) ?hd (cs:=#[.slice A1_0 l1_0.length c1_0,.slice A1_1 l1_1.length c1_1]) (t:=28) ?hr ?_;(case hd=>rfl);(case hg=>rfl);(case hr=>first|(go_simp;done)|(go_simp;rfl));intro gb250 hg w7 hbox hb;have n0_:=Zz.mk (Zk (g:=gb249) (o:=.cells #[.slice A0_0 l0_0.length c0_0,.slice A0_1 l0_1.length c0_1] 28 (0,0)) (by (with_reducible repeat (first|refine blk_drewN ?_ _|refine Ze ?_|refine blk_alloc ?_ _));exact BK249.out) hb);have n1_:=Zz.mk (Zi (by repeat (first|(with_reducible first|exact HB.out|apply Zb|apply Za|apply Zc|refine Zd ?_ GE249.out)|exact HB.out)) hb);have n2_:=Zz.mk (hbox);have n3_:=Zz.mk ((by rw [hg];exact (Zf (by repeat (first|(with_reducible first|exact HB.out|apply Zb|apply Za|apply Zc|refine Zd ?_ GE249.out)|exact HB.out))):w.heap.size<=gb250));have n4_:=Zz.mk ((by rw [hg];exact (Zf (by repeat (first|(with_reducible first|exact HB.out|apply Zb|apply Za|apply Zc|refine Zd ?_ GE249.out)|exact HB.out))):w.heap.size<=gb250));have n5_:=Zz.mk ((by rw [hg];exact Nat.ne_of_lt (Z5 (g:=gb249) (o:=.cells #[.slice A0_0 l0_0.length c0_0,.slice A0_1 l0_1.length c0_1] 28 (0,0)) (by (with_reducible repeat (first|refine blk_drewN ?_ _|refine Ze ?_|refine blk_alloc ?_ _));exact BK249.out)):gb249≠gb250));have n6_:=Zz.mk ((by rw [hg];exact Nat.ne_of_gt (Z5 (g:=gb249) (o:=.cells #[.slice A0_0 l0_0.length c0_0,.slice A0_1 l0_1.length c0_1] 28 (0,0)) (by (with_reducible repeat (first|refine blk_drewN ?_ _|refine Ze ?_|refine blk_alloc ?_ _));exact BK249.out)):gb250≠gb249));clear BK249;clear HB;have BK249:=n0_;have HB:=n1_;have BK250:=n2_;have GW250:=n3_;have GE250:=n4_;have NB249_250:=n5_;have NB250_249:=n6_;clear n0_ n1_ n2_ n3_ n4_ n5_ n6_;clear hb hbox hg))
 have n0_:=Zz.mk (Ze BK249.out)
 have n1_:=Zz.mk (Ze BK250.out)
 have n2_:=Zz.mk (Zc HB.out)
 clear BK249
 clear BK250
 clear HB
 have BK249:=n0_
 have BK250:=n1_
 have HB:=n2_
 clear n0_ n1_ n2_
 refine start_ (n:=12) (S:=fun w'=>w'.cell? ⟨gb249,0,none⟩=some (.slice A0_0 l0_0.length c0_0)/\w'.cell? ⟨gb249,1,none⟩=some (.slice A0_1 l0_1.length c0_1)/\w'.cell? ⟨gb250,0,none⟩=some (.slice A1_0 l1_0.length c1_0)/\w'.cell? ⟨gb250,1,none⟩=some (.slice A1_1 l1_1.length c1_1)) (ds:=[]) #[false,false,false,false,false,false,false,false,false,false,false,false] (by kernel_rfl) rfl rfl ⟨(Zh BK249.out 0).trans rfl,(Zh BK249.out 1).trans rfl,(Zh BK250.out 0).trans rfl,(Zh BK250.out 1).trans rfl⟩ (fun hHeld=>?_);refine with_tabW ratio_Cmp.tab1 ratio_Cmp.bits1 (fun HT_ HW_=>?_)
 generalize w7.drew=w8 at BK249 BK250 HB hHeld ⊢
 refine pure_ (i:=0) (N:=some 5) (v:=?_) (a':=?_) #[true,false,false,false,false,false,false,false,false,false,false,false] rfl rfl (Z3 HT_.out (by kernel_rfl)) (fun _ _ _ h=>h) (Or.inl ⟨by rfl,?_⟩) ?_ ?_
 rotate_left
 ·intro w'
  go_simp
  with_reducible rfl
 rotate_left
 ·simp only [Act.put,List.setIfInBounds_toArray,List.set_cons_zero,List.set_cons_succ,Z6,Z7]
  rfl
 refine pure_ (i:=2) (N:=some 7) (v:=?_) (a':=?_) #[true,false,true,false,false,false,false,false,false,false,false,false] rfl rfl (Z3 HT_.out (by kernel_rfl)) (fun _ _ _ h=>h) (Or.inl ⟨by rfl,?_⟩) ?_ ?_
 rotate_left
 ·intro w'
  go_simp
  with_reducible rfl
 rotate_left
 ·simp only [Act.put,List.setIfInBounds_toArray,List.set_cons_zero,List.set_cons_succ,Z6,Z7]
  rfl
 refine pure_ (i:=5) (N:=some 10) (v:=?_) (a':=?_) #[true,false,true,false,false,true,false,false,false,false,false,false] rfl rfl (Z3 HT_.out (by kernel_rfl)) (fun _ _ _ h=>h) (Or.inl ⟨by rfl,?_⟩) ?_ ?_
 rotate_left
 ·intro w'
  go_simp
  with_reducible rfl
 rotate_left
 ·simp only [Act.put,List.setIfInBounds_toArray,List.set_cons_zero,List.set_cons_succ,Z6,Z7]
  rfl
 refine pure_ (i:=7) (N:=some 12) (v:=?_) (a':=?_) #[true,false,true,false,false,true,false,true,false,false,false,false] rfl rfl (Z3 HT_.out (by kernel_rfl)) (fun _ _ _ h=>h) (Or.inl ⟨by rfl,?_⟩) ?_ ?_
 rotate_left
 ·intro w'
  go_simp
  with_reducible rfl
 rotate_left
 ·simp only [Act.put,List.setIfInBounds_toArray,List.set_cons_zero,List.set_cons_succ,Z6,Z7]
  rfl
 refine take_ (i:=1) (N:=some 6) (v:=?_) (a':=?_) #[true,true,true,false,false,true,false,true,false,false,false,false] rfl rfl (Zw HT_.out HW_.out (by kernel_rfl)) (fun _ _ _ h=>h) (Or.inl ⟨by rfl,?_⟩) hHeld ?_ ?_
 rotate_left
 ·rintro w' ⟨s0,s1,s2,s3⟩
  go_simp
  with_reducible rfl
 rotate_left
 ·simp only [Act.put,List.setIfInBounds_toArray,List.set_cons_zero,List.set_cons_succ,Z6,Z7]
  rfl
 refine take_ (i:=3) (N:=some 8) (v:=?_) (a':=?_) #[true,true,true,true,false,true,false,true,false,false,false,false] rfl rfl (Zw HT_.out HW_.out (by kernel_rfl)) (fun _ _ _ h=>h) (Or.inl ⟨by rfl,?_⟩) hHeld ?_ ?_
 rotate_left
 ·rintro w' ⟨s0,s1,s2,s3⟩
  go_simp
  with_reducible rfl
 rotate_left
 ·simp only [Act.put,List.setIfInBounds_toArray,List.set_cons_zero,List.set_cons_succ,Z6,Z7]
  rfl
 refine take_ (i:=6) (N:=some 11) (v:=?_) (a':=?_) #[true,true,true,true,false,true,true,true,false,false,false,false] rfl rfl (Zw HT_.out HW_.out (by kernel_rfl)) (fun _ _ _ h=>h) (Or.inl ⟨by rfl,?_⟩) hHeld ?_ ?_
 rotate_left
 ·rintro w' ⟨s0,s1,s2,s3⟩
  go_simp
  with_reducible rfl
 rotate_left
 ·simp only [Act.put,List.setIfInBounds_toArray,List.set_cons_zero,List.set_cons_succ,Z6,Z7]
  rfl
 refine take_ (i:=8) (N:=some 13) (v:=?_) (a':=?_) #[true,true,true,true,false,true,true,true,true,false,false,false] rfl rfl (Zw HT_.out HW_.out (by kernel_rfl)) (fun _ _ _ h=>h) (Or.inl ⟨by rfl,?_⟩) hHeld ?_ ?_
 rotate_left
 ·rintro w' ⟨s0,s1,s2,s3⟩
  go_simp
  with_reducible rfl
 rotate_left
 ·simp only [Act.put,List.setIfInBounds_toArray,List.set_cons_zero,List.set_cons_succ,Z6,Z7]
  rfl
 refine one_ (i:=4) (N:=some 9) #[true,true,true,true,true,true,true,true,true,false,false,false] rfl rfl (one_of HT_.out (by kernel_rfl)) (by decide) (fun K hK=>?_)
 refine goes_ Try.func108 (by kernel_rfl) rfl #[.slice A0_0 l0_0.length c0_0,.slice A1_1 l1_1.length c1_1] (by rfl) rfl rfl (by (try simp only [List.map_toArray,List.map_cons,List.map_nil]);first|done|rfl|(simp only [List.length_drop,List.length_take];rfl)) ?_
 with_reducible refine (nat_Mul.calls _ _ l0_0 _ _ l1_1 t251 _ ?side1 ?side2 ?side3 ?side4 A3.out).mono ?_
 (case side1=>repeat (first|exact (Kd.C_below HR0_0.out HB.out)|(with_reducible refine Kd.C_alloc ?_ _)|(with_reducible refine Kd.C_drewN ?_ _)|(with_reducible refine Kd.C_drew ?_)))
 (case side2=>exact HC0_0.out)
 (case side3=>repeat (first|exact (Kd.C_below HR1_1.out HB.out)|(with_reducible refine Kd.C_alloc ?_ _)|(with_reducible refine Kd.C_drewN ?_ _)|(with_reducible refine Kd.C_drew ?_)))
 (case side4=>exact HC1_1.out)
 rintro e w9 ⟨v252,rfl,ho0,hb⟩
 refine ⟨_,rfl,?_⟩
 have n0_:=Zz.mk (Kd.V_lower (Kd.V_mono (ok':=fun k_=>k_≠gb249/\k_≠gb250) ho0 (fun k_ hk_=>⟨(Kd.freshB (g:=gb249) (o:=.cells #[.slice A0_0 l0_0.length c0_0,.slice A0_1 l0_1.length c0_1] 28 (0,0)) (by (with_reducible repeat (first|refine blk_drewN ?_ _|refine Ze ?_|refine blk_alloc ?_ _));exact BK249.out) k_ hk_),(Kd.freshB (g:=gb250) (o:=.cells #[.slice A1_0 l1_0.length c1_0,.slice A1_1 l1_1.length c1_1] 28 (0,0)) (by (with_reducible repeat (first|refine blk_drewN ?_ _|refine Ze ?_|refine blk_alloc ?_ _));exact BK250.out) k_ hk_)⟩)) (Zf (by repeat (first|(with_reducible first|exact HB.out|apply Zb|apply Za|apply Zc|refine Zd ?_ GE249.out|refine Zd ?_ GE250.out)|exact HB.out))))
 have n1_:=Zz.mk (Zk (g:=gb249) (o:=.cells #[.slice A0_0 l0_0.length c0_0,.slice A0_1 l0_1.length c0_1] 28 (0,0)) (by (with_reducible repeat (first|refine blk_drewN ?_ _|refine Ze ?_|refine blk_alloc ?_ _));exact BK249.out) hb)
 have n2_:=Zz.mk (Zk (g:=gb250) (o:=.cells #[.slice A1_0 l1_0.length c1_0,.slice A1_1 l1_1.length c1_1] 28 (0,0)) (by (with_reducible repeat (first|refine blk_drewN ?_ _|refine Ze ?_|refine blk_alloc ?_ _));exact BK250.out) hb)
 have n3_:=Zz.mk (Zi (by repeat (first|(with_reducible first|exact HB.out|apply Zb|apply Za|apply Zc|refine Zd ?_ GE249.out|refine Zd ?_ GE250.out)|exact HB.out)) hb)
 clear BK249
 clear BK250
 clear HB
 have HO253:=n0_
 have BK249:=n1_
 have BK250:=n2_
 have HB:=n3_
 clear n0_ n1_ n2_ n3_
 (try clear hb)
 (try clear hb2)
 (try clear hk)
 (try clear hi)
 (try clear ho0)
 refine hK.out _ _ ⟨(Zh BK249.out 0).trans rfl,(Zh BK249.out 1).trans rfl,(Zh BK250.out 0).trans rfl,(Zh BK250.out 1).trans rfl⟩ (fun hHeld=>?_)
 clear hK K
 refine norm_ (a':=?_) ?_ ?_
 rotate_left
 ·show Act.put _ (some 9) _=_
  simp only [Act.put,List.setIfInBounds_toArray,List.set_cons_zero,List.set_cons_succ,Z6,Z7]
  rfl
 refine one_ (i:=9) (N:=some 14) #[true,true,true,true,true,true,true,true,true,true,false,false] rfl rfl (one_of HT_.out (by kernel_rfl)) (by decide) (fun K hK=>?_)
 refine goes_ Try.func108 (by kernel_rfl) rfl #[.slice A1_0 l1_0.length c1_0,.slice A0_1 l0_1.length c0_1] (by rfl) rfl rfl (by (try simp only [List.map_toArray,List.map_cons,List.map_nil]);first|done|rfl|(simp only [List.length_drop,List.length_take];rfl)) ?_
 with_reducible refine (nat_Mul.calls _ _ l1_0 _ _ l0_1 t254 _ ?side1 ?side2 ?side3 ?side4 A4.out).mono ?_
 (case side1=>repeat (first|exact (Kd.C_below HR1_0.out HB.out)|(with_reducible refine Kd.C_alloc ?_ _)|(with_reducible refine Kd.C_drewN ?_ _)|(with_reducible refine Kd.C_drew ?_)))
 (case side2=>exact HC1_0.out)
 (case side3=>repeat (first|exact (Kd.C_below HR0_1.out HB.out)|(with_reducible refine Kd.C_alloc ?_ _)|(with_reducible refine Kd.C_drewN ?_ _)|(with_reducible refine Kd.C_drew ?_)))
 (case side4=>exact HC0_1.out)
 rintro e w10 ⟨v255,rfl,ho0,hb⟩
 refine ⟨_,rfl,?_⟩
 have n0_:=Zz.mk (Kd.V_below (by (with_reducible repeat (first|apply Kd.V_alloc|apply Kd.V_drewN|apply Kd.V_drew));exact HO253.out) hb)
 have n1_:=Zz.mk (Kd.V_lower (Kd.V_mono (ok':=fun k_=>k_≠gb249/\k_≠gb250) ho0 (fun k_ hk_=>⟨(Kd.freshB (g:=gb249) (o:=.cells #[.slice A0_0 l0_0.length c0_0,.slice A0_1 l0_1.length c0_1] 28 (0,0)) (by (with_reducible repeat (first|refine blk_drewN ?_ _|refine Ze ?_|refine blk_alloc ?_ _));exact BK249.out) k_ hk_),(Kd.freshB (g:=gb250) (o:=.cells #[.slice A1_0 l1_0.length c1_0,.slice A1_1 l1_1.length c1_1] 28 (0,0)) (by (with_reducible repeat (first|refine blk_drewN ?_ _|refine Ze ?_|refine blk_alloc ?_ _));exact BK250.out) k_ hk_)⟩)) (Zf (by repeat (first|(with_reducible first|exact HB.out|apply Zb|apply Za|apply Zc|refine Zd ?_ GE249.out|refine Zd ?_ GE250.out)|exact HB.out))))
 have n2_:=Zz.mk (Zk (g:=gb249) (o:=.cells #[.slice A0_0 l0_0.length c0_0,.slice A0_1 l0_1.length c0_1] 28 (0,0)) (by (with_reducible repeat (first|refine blk_drewN ?_ _|refine Ze ?_|refine blk_alloc ?_ _));exact BK249.out) hb)
 have n3_:=Zz.mk (Zk (g:=gb250) (o:=.cells #[.slice A1_0 l1_0.length c1_0,.slice A1_1 l1_1.length c1_1] 28 (0,0)) (by (with_reducible repeat (first|refine blk_drewN ?_ _|refine Ze ?_|refine blk_alloc ?_ _));exact BK250.out) hb)
 have n4_:=Zz.mk (Zi (by repeat (first|(with_reducible first|exact HB.out|apply Zb|apply Za|apply Zc|refine Zd ?_ GE249.out|refine Zd ?_ GE250.out)|exact HB.out)) hb)
 clear HO253
 clear BK249
 clear BK250
 clear HB
 have HO253:=n0_
 have HO256:=n1_
 have BK249:=n2_
 have BK250:=n3_
 have HB:=n4_
 clear n0_ n1_ n2_ n3_ n4_
 (try clear hb)
 (try clear hb2)
 (try clear hk)
 (try clear hi)
 (try clear ho0)
 obtain ⟨Ao11,co11,eo11⟩:=Kd.V_slice HO253.out
 (first|subst eo11|(injection eo11 with f1_ f2_ f3_;have f4_:=f1_.symm;have f5_:=f3_.symm;clear f1_ f2_ f3_;subst f4_;subst f5_))
 obtain ⟨Ao12,co12,eo12⟩:=Kd.V_slice HO256.out
 (first|subst eo12|(injection eo12 with f1_ f2_ f3_;have f4_:=f1_.symm;have f5_:=f3_.symm;clear f1_ f2_ f3_;subst f4_;subst f5_))
 refine hK.out _ _ ⟨(Zh BK249.out 0).trans rfl,(Zh BK249.out 1).trans rfl,(Zh BK250.out 0).trans rfl,(Zh BK250.out 1).trans rfl⟩ (fun hHeld=>?_)
 clear hK K
 refine norm_ (a':=?_) ?_ ?_
 rotate_left
 ·show Act.put _ (some 14) _=_
  simp only [Act.put,List.setIfInBounds_toArray,List.set_cons_zero,List.set_cons_succ,Z6,Z7]
  rfl
 refine one_ (i:=10) (N:=some 15) #[true,true,true,true,true,true,true,true,true,true,true,false] rfl rfl (one_of HT_.out (by kernel_rfl)) (by decide) (fun K hK=>?_)
 refine goes_ Try.func117 (by kernel_rfl) rfl #[.slice Ao11 t251.length co11,.slice Ao12 t254.length co12] (by rfl) rfl rfl (by (try simp only [List.map_toArray,List.map_cons,List.map_nil]);first|done|rfl|(simp only [List.length_drop,List.length_take];rfl)) ?_
 with_reducible refine (nat_Cmp.calls k _ _ t251 _ _ t254 t257 _ ?side1 ?side2 ?side3 ?side4 A5.out).mono ?_
 (case side1=>repeat (first|exact (Kd.V_reads' HO253.out).2.2|(with_reducible refine Kd.C_alloc ?_ _)|(with_reducible refine Kd.C_drewN ?_ _)|(with_reducible refine Kd.C_drew ?_)))
 (case side2=>exact (Kd.V_reads' HO253.out).2.1)
 (case side3=>repeat (first|exact (Kd.V_reads' HO256.out).2.2|(with_reducible refine Kd.C_alloc ?_ _)|(with_reducible refine Kd.C_drewN ?_ _)|(with_reducible refine Kd.C_drew ?_)))
 (case side4=>exact (Kd.V_reads' HO256.out).2.1)
 rintro e w' ⟨rfl,⟨nd,rfl⟩⟩
 refine ⟨_,rfl,?_⟩
 refine hK.out _ _ ⟨(Zh BK249.out 0).trans rfl,(Zh BK249.out 1).trans rfl,(Zh BK250.out 0).trans rfl,(Zh BK250.out 1).trans rfl⟩ (fun hHeld=>?_)
 clear hK K
 refine norm_ (a':=?_) ?_ ?_
 rotate_left
 ·show Act.put _ (some 15) _=_
  simp only [Act.put,List.setIfInBounds_toArray,List.set_cons_zero,List.set_cons_succ,Z6,Z7]
  rfl
 refine pure_ (i:=11) (N:=some 4) (v:=?_) (a':=?_) #[true,true,true,true,true,true,true,true,true,true,true,true] rfl rfl (Z3 HT_.out (by kernel_rfl)) (fun _ _ _ h=>h) (Or.inl ⟨by rfl,?_⟩) ?_ ?_
 rotate_left
 ·intro w'
  go_simp
  with_reducible rfl
 rotate_left
 ·simp only [Act.put,List.setIfInBounds_toArray,List.set_cons_zero,List.set_cons_succ,Z6,Z7]
  rfl
 refine done_ (done_of HT_.out (by kernel_rfl)) ?_
 try go_wp2
 go_ret
 exact ⟨by first|rfl|(simp [Zm,Zl]<;>rfl)|(simp [*,Zm,Zl]<;>rfl),by repeat (first|(with_reducible first|exact HB.out|apply Zb|apply Za|apply Zc|refine Zd ?_ GE249.out|refine Zd ?_ GE250.out)|exact HB.out)⟩
end Go.Proofs.Ytfldklimlcnnnaa.PHq
end
