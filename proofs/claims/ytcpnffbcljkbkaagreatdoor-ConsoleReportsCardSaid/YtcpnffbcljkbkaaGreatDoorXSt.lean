/- Lists of bytes: numerals and pieces, bc the console writes and reads them. No program in sight. -/
import Derived.Test.YtcpnffbcljkbkaaGreatDoorAb0
import Derived.Lib.Split
import Derived.Lib.ItoaNum
import Derived.Lib.Strings
import Derived.Lib.Join
set_option linter.all false
noncomputable section
namespace Go.Str
open Go.Ab
open Go.Lib
def splitC(c:UInt8):List UInt8->List (List UInt8)
 |[]=>[[]]
 |x::r=>if x=c then[]::splitC c r else match splitC c r with
   |[]=>[[x]]
   |h::t=>(x::h)::t
def zwt(c:UInt8):∀l,splitC c l≠[]
 |[]=>by simp[splitC]
 |x::r=>by
   unfold splitC;split
   .simp
   .split<;>simp
def zE4(c b:UInt8)(l:List UInt8):index (b::l) [c]=if b=c then 0 else if index l [c]=-1 then -1 else index l [c]+1:=by
 rw[index];by_cases h:b=c
 .subst h;simp
 . have h':¬c=b:=λe=>h e.symm
   simp[h,h']
def zxn(c:UInt8):∀l,index l [c]=-1->splitC c l=[l]
 |[],_=>rfl
 |x::r,h=>by
   rw[zE4]at h;by_cases hx:x=c
   .simp[hx]at h
   . rw[if_neg hx]at h;by_cases hr:index r [c]=-1
     .rw[splitC,if_neg hx,zxn c r hr]
     .rw[if_neg hr]at h;have:=index_ge r [c];omega
def zyS(c:UInt8):∀(l:List UInt8) (i:Nat),index l [c]=i->splitC c l=l.take i::splitC c (l.drop (i+1))
 |[],i,h=>by simp[index]at h
 |x::r,i,h=>by
   rw[zE4]at h;by_cases hx:x=c
   . rw[if_pos hx]at h;have:i=0:=by omega
     subst this;simp[splitC,hx]
   . rw[if_neg hx]at h;by_cases hr:index r [c]=-1
     .rw[if_pos hr]at h;omega
     . rw[if_neg hr]at h;have:=index_ge r [c];obtain⟨j,hj⟩:∃j:Nat,index r [c]=j:=⟨(index r [c]).toNat,by omega⟩
       have:i=j+1:=by omega
       subst this;rw[splitC,if_neg hx,zyS c r j hj];rfl
def split_eq(c:UInt8):∀(n:Nat) (l:List UInt8),l.length<=n->split l [c]=splitC c l:=by
 intro n
 induction n with
 |zero=>intro l hl;have:l=[]:=zcr (by omega);subst this;unfold split;rw[count_miss (by rfl)];rfl
 |succ n ih =>
   intro l hl;by_cases h:index l [c]=-1
   .rw[zxn c l h,split,count_miss h];rfl
   . have:=index_ge l [c];obtain⟨j,hj⟩:∃j:Nat,index l [c]=j:=⟨(index l [c]).toNat,by omega⟩
     have hlen:=index_room l [c] (by omega);rw[hj]at hlen;simp only[List.length_singleton]at hlen;rw[zyS c l j hj,<-ih (l.drop (j+1)) (by simp;omega)];unfold split;rw[count_hit (by simp) hj,Nat.add_comm,splitK,if_neg (by simp[h]),hj];simp
def stepV(n:Nat)(d:UInt8):Nat:=10*n+(d.toNat-48)
def val(n:Nat)(l:List UInt8):Nat:=l.foldl stepV n
def val_one(n:Nat)(d:UInt8):val n [d]=10*n+(d.toNat-48):=rfl
def isDig(d:UInt8):Bool:=decide (48<=d.toNat)&&decide (d.toNat<=57)
def numW(neg:Bool)(ds:List UInt8):Option Int:=
 if ds.length<1\/18<ds.length\/(ds.head?=some 48/\(neg=true\/1<ds.length))\/ds.all isDig=false then none
 else some (if neg then -(val 0 ds:Int)else val 0 ds)
def numS:List UInt8->Option Int
 |[]=>none
 |d::r=>if d=45 then numW true r else numW false (d::r)
def val_append(a b:List UInt8)(n:Nat):val n (a++b)=val (val n a) b:=by unfold val;exact List.foldl_append
def zte{k:Nat}(h:k<10):(UInt8.ofNat (48+k)).toNat=48+k:=by
 have e:(UInt8.ofNat (48+k)).toNat=(48+k) % 256:=by simp
 rw[e];omega
def zwh(u:Nat):val 0 (decDigits u)=u/\(decDigits u).all isDig=true/\1<=(decDigits u).length/\((decDigits u).head?=some 48->u=0/\(decDigits u).length=1):=by
 induction u using Nat.strongRecOn with
 |_ u ih =>
   rw[decDigits];by_cases h:u<10
   . rw[dif_pos h]
     have e1:val 0 [UInt8.ofNat (48+u)]=u:=by rw[val_one,zte h];omega
     refine⟨e1,?_,by simp,λe=>?_⟩
     .simp only[ziA,List.all_nil,isDig,zte h,ziz,zaU,decide_eq_true_eq];omega
     simp only[List.head?_cons,zaf]at e;have:=congrArg UInt8.toNat e;rw[zte h]at this;simp at this;exact⟨by omega,by simp⟩
   . rw[dif_neg h];obtain⟨h1,h2,h3,h4⟩:=ih (u / 10) (by omega);have hk:u % 10<10:=by omega
     refine⟨?_,?_,by simp,λe=>?_⟩
     .rw[val_append,h1,val_one,zte hk];omega
     .rw[List.all_append,h2];simp only[ziA,List.all_nil,isDig,zte hk,ziz,zdK,zaU,decide_eq_true_eq];omega
     . have:(decDigits (u / 10)).head?=some 48:=by
        cases hd:decDigits (u / 10)with
        |nil=>rw[hd]at h3;simp at h3
        |cons a t=>rw[hd]at e;simpa using e
       obtain⟨h5,h6⟩:=h4 this;omega
def zyz(u:Nat):(decDigits u).length=nDigits u:=by rw[decDigits_eq];simp
def zyG{u k:Nat}(h:u<10 ^ k)(hk:1<=k):nDigits u<=k:=by
 induction k generalizing u with
 |zero=>omega
 |succ k ih =>
   by_cases hu:u<10
   .rw[nDigits_small hu];omega
   . rw[nDigits_big hu]
     have:1<=k:=by
      rcases Nat.eq_zero_or_pos k with h0|h0
      .subst h0;simp at h;omega
      .exact h0
     have:=ih (u:=u / 10) (by rw[zi4]at h;omega) this;omega
def zuM{u:Nat}:(decDigits u).length<=18↔u<1000000000000000000:=by
 rw[zyz];constructor
 . intro h;have h1:=lt_pow_nDigits u
   exact zbO h1 (by
    have:(10:Nat) ^ nDigits u<=10 ^ 18:=zdX (by omega) h
    simpa using this)
 .intro h;exact zyG (k:=18) (by simpa using h) (by omega)
def zGL(n:Int):numS (itoa n)=if -1000000000000000000<n/\n<1000000000000000000 then some n else none:=by
 unfold itoa;by_cases h:n<0
 . rw[if_pos h];obtain⟨h1,h2,h3,h4⟩:=zwh n.natAbs;simp only[numS,if_true,numW];by_cases hl:n.natAbs<1000000000000000000
   . have hlen:=zuM.2 hl
     rw[if_neg (by
      rintro(a|a|⟨a,_⟩|a)
      .omega
      .omega
      .have:=(h4 a).1;omega
      .rw[h2]at a;cases a),h1,if_pos (show -1000000000000000000<n/\n<1000000000000000000 by omega)]
     congr 1;omega
   . have hlen:¬_:=λe=>hl (zuM.1 e)
     rw[if_pos (.inr (.inl (by omega))),if_neg (by omega)]
 . rw[if_neg h];obtain⟨h1,h2,h3,h4⟩:=zwh n.toNat
   have hne:numS (decDigits n.toNat)=numW false (decDigits n.toNat):=by
    cases hd:decDigits n.toNat with
    |nil=>rw[hd]at h3;simp at h3
    |cons a t =>
      have ha:isDig a=true:=by rw[hd]at h2;simp at h2;exact h2.1
      have:a≠45:=by rintro rfl;simp[isDig]at ha
      rw[numS,if_neg this]
   rw[hne];unfold numW;by_cases hl:n.toNat<1000000000000000000
   . have hlen:=zuM.2 hl
     rw[if_neg (by
      rintro(a|a|⟨a,b|b⟩|a)
      .omega
      .omega
      .cases b
      .have:=(h4 a).2;omega
      .rw[h2]at a;cases a),h1,if_pos (show -1000000000000000000<n/\n<1000000000000000000 by omega),if_neg (by decide)]
     congr 1;omega
   . have hlen:¬_:=λe=>hl (zuM.1 e)
     rw[if_pos (.inr (.inl (by omega))),if_neg (by omega)]
def itoa_byte{n:Int}{b:UInt8}(h:b∈itoa n):b=45\/isDig b=true:=by
 unfold itoa at h;split at h
 . rcases zat.1 h with e|e
   .exact .inl e
   .exact .inr (zbd.1 (zwh n.natAbs).2.1 b e)
 .exact .inr (zbd.1 (zwh n.toNat).2.1 b h)
def zAX{n:Int}{c:UInt8}(h1:c≠45)(h2:isDig c=false):c ∉ itoa n:=by
 intro h;rcases itoa_byte h with e|e
 .exact h1 e
 .rw[h2]at e;cases e
def fits(n:Int):Prop:=-1000000000000000000<n/\n<1000000000000000000
instance(n:Int):Decidable (fits n):=inferInstanceAs (Decidable (_/\_))
def numsS:List (List UInt8)->Option (List Int)
 |[]=>some []
 |w::r=>match numS w,numsS r with
   |some n,some l=>some (n::l)
   |_,_=>none
def wordL(l:aQ):List UInt8:=if l=[]then[45]else join (l.map itoa) [44]
def readL(w:List UInt8):Option (List Int):=if w=[45]then some []else if(splitC 44 w).length<=300 then numsS (splitC 44 w)else none
end Go.Str
end
