/- VoteFinds: what the law comes to is true at all votes, every author and round: see the text of the closed forms. Condition: the votes' length is below 4398046511000. -/
import Derived.Test.YtlaagbadhkpjgaaPure0
